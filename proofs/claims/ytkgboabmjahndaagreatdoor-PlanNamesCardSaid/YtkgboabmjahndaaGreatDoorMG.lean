/- Rules for walks, pure facts of the program, contracts of its functions: SM SN SO SP. -/
import Derived.Test.YtkgboabmjahndaaGreatDoorMF
import Derived.Test.YtkgboabmjahndaaGreatDoorMC
import Derived.Test.YtkgboabmjahndaaGreatDoorMD
set_option linter.unusedVariables false
set_option linter.unusedSimpArgs false
set_option maxRecDepth 100000
namespace Go.Fx
open Go Go.Proofs

theorem ref01wide (w : Int) (H : List HA)  : AC Tryz.prog 154 [I w] (H) (fun r' H' => r' = (I (wide w)) ∧ H' = H) := by
  refine AC.enter Tryz.func154 rfl Tryz.ntmps154 rfl (fun I0 => ?_)
  refine AQ.seq ?_
  refine AQ.region ?_
  refine AQ.assign (.plain rfl) rfl rfl ?_
  refine AQ.nil ?_
  refine AQ.then_n ?_
  refine AQ.seq ?_
  refine AQ.region ?_
  refine AQ.move (.plain rfl) rfl rfl ?_
  refine AQ.max2 (.plain rfl) rfl rfl rfl ?_
  refine AQ.min2 (.plain rfl) rfl rfl rfl ?_
  refine AQ.assign (.plain rfl) rfl rfl ?_
  refine AQ.nil ?_
  refine AQ.then_n ?_
  refine AQ.ret ?_
  exact AQ.done1 (Imm.le_refl _) Tryz.results154 rfl ⟨rfl, rfl⟩
theorem ref01most (w : Int) (H : List HA) (y0 : 0 ≤ w) (y1 : w ≤ 7) : AC Tryz.prog 155 [I w] (H) (fun r' H' => r' = (I (256 ^ w.toNat - 1)) ∧ H' = H) := by
  refine AC.enter Tryz.func155 rfl Tryz.ntmps155 rfl (fun I0 => ?_)
  refine AQ.seq ?_
  refine AQ.region ?_
  refine AQ.assign (.plain rfl) rfl rfl ?_
  refine AQ.nil ?_
  refine AQ.then_n ?_
  refine AQ.seq ?_
  refine AQ.region ?_
  refine AQ.assign (.plain rfl) rfl rfl ?_
  refine AQ.nil ?_
  refine AQ.then_n ?_
  refine AQ.seq ?_
  refine AQ.seq ?_
  refine AQ.region ?_
  refine AQ.assign (.plain rfl) rfl rfl ?_
  refine AQ.nil ?_
  refine AQ.then_n ?_
  refine AQ.block ?_
  refine AQ.loop (σ := Nat) (fun s => [(0, I w), (3, I (256 ^ s)), (4, I (s : Int))]) (fun s => H) (fun s => (s : Int) ≤ w) (fun s => w.toNat - s) 0 (by omega) ⟨rfl, rfl, rfl, trivial⟩ rfl (fun s hs => ?_)
  refine AQ.seq ?_
  refine AQ.seq ?_
  refine AQ.region ?_
  refine AQ.move (.plain rfl) rfl rfl ?_
  refine AQ.move (.plain rfl) rfl rfl ?_
  refine AQ.lss (.plain rfl) rfl rfl rfl ?_
  refine AQ.nil ?_
  refine AQ.then_n ?_
  refine AQ.cond_d rfl (fun h1 => ?_) (fun h1 => ?_)
  · refine AQ.skip ?_
    refine AQ.then_n ?_
    refine AQ.seq ?_
    refine AQ.block ?_
    refine AQ.region ?_
    refine AQ.move (.plain rfl) rfl rfl ?_
    have hp := pow256 (a := s) (b := 6) (by omega)
    have hp0 : (0 : Int) < 256 ^ s := Int.pow_pos (by decide)
    have h6 : (256 : Int) ^ 6 = 281474976710656 := by decide
    refine AQ.mul (.plain rfl) rfl rfl rfl (z := 256 ^ (s + 1)) (by rw [Int.pow_succ]; exact i64_id (by omega) (by omega)) ?_
    refine AQ.assign (.plain rfl) rfl rfl ?_
    refine AQ.nil ?_
    refine AQ.block_n ?_
    refine AQ.then_n ?_
    refine AQ.region ?_
    refine AQ.move (.plain rfl) rfl rfl ?_
    refine AQ.add (.plain rfl) rfl rfl rfl (i64_id (by omega) (by omega)) ?_
    refine AQ.assign (.plain rfl) rfl rfl ?_
    refine AQ.nil ?_
    exact AQ.again (Imm.le_refl _) (s + 1) (by omega) (by omega) ⟨rfl, rfl, rfl, trivial⟩ rfl
  · refine AQ.exit ?_
    refine AQ.then_e ?_
    refine AQ.then_e ?_
    refine AQ.block_hit ?_
    refine AQ.then_n ?_
    refine AQ.seq ?_
    refine AQ.region ?_
    refine AQ.move (.plain rfl) rfl rfl ?_
    have hp := pow256 (a := s) (b := 7) (by omega)
    have hp0 : (0 : Int) < 256 ^ s := Int.pow_pos (by decide)
    have h7 : (256 : Int) ^ 7 = 72057594037927936 := by decide
    refine AQ.sub (.plain rfl) rfl rfl rfl (i64_id (by omega) (by omega)) ?_
    refine AQ.assign (.plain rfl) rfl rfl ?_
    refine AQ.nil ?_
    refine AQ.then_n ?_
    refine AQ.ret ?_
    exact AQ.done1 (Imm.le_refl _) Tryz.results155 rfl ⟨(I_c (by rw [show w.toNat = s by omega])), rfl⟩
theorem ref05Get (m : List Int) (i : Int) (H : List HA)  : AC Tryz.prog 148 [ints m, I i] (H) (fun r' H' => r' = (I (mget m i)) ∧ H' = H) := by
  refine AC.enter Tryz.func148 rfl Tryz.ntmps148 rfl (fun I0 => ?_)
  refine AQ.seq ?_
  refine AQ.region ?_
  refine AQ.assign (.plain rfl) rfl rfl ?_
  refine AQ.nil ?_
  refine AQ.then_n ?_
  refine AQ.seq ?_
  refine AQ.seq ?_
  refine AQ.region ?_
  refine AQ.move (.plain rfl) rfl rfl ?_
  refine AQ.lss (.plain rfl) rfl rfl rfl ?_
  refine AQ.move (.plain rfl) rfl rfl ?_
  refine AQ.split (t := 7) rfl (fun h1 => ?_) (fun h1 => ?_)
  · refine AQ.off rfl rfl rfl rfl ?_
    refine AQ.off rfl rfl rfl rfl ?_
    refine AQ.off rfl rfl rfl rfl ?_
    refine AQ.off rfl rfl rfl rfl ?_
    refine AQ.pick_t (.plain rfl) rfl rfl rfl ?_
    refine AQ.move (.plain rfl) rfl rfl ?_
    refine AQ.off rfl rfl rfl rfl ?_
    refine AQ.off rfl rfl rfl rfl ?_
    refine AQ.pick_t (.plain rfl) rfl rfl rfl ?_
    refine AQ.move (.plain rfl) rfl rfl ?_
    refine AQ.off rfl rfl rfl rfl ?_
    refine AQ.off rfl rfl rfl rfl ?_
    refine AQ.off rfl rfl rfl rfl ?_
    refine AQ.off rfl rfl rfl rfl ?_
    refine AQ.off rfl rfl rfl rfl ?_
    refine AQ.pick_t (.plain rfl) rfl rfl rfl ?_
    refine AQ.move (.plain rfl) rfl rfl ?_
    refine AQ.off rfl rfl rfl rfl ?_
    refine AQ.off rfl rfl rfl rfl ?_
    refine AQ.off rfl rfl rfl rfl ?_
    refine AQ.off rfl rfl rfl rfl ?_
    refine AQ.off rfl rfl rfl rfl ?_
    refine AQ.pick_t (.plain rfl) rfl rfl rfl ?_
    refine AQ.nil ?_
    refine AQ.then_n ?_
    refine AQ.cond_t rfl ?_
    refine AQ.seq ?_
    refine AQ.region ?_
    refine AQ.assign (.plain rfl) rfl rfl ?_
    refine AQ.nil ?_
    refine AQ.then_n ?_
    refine AQ.ret ?_
    refine AQ.then_r ?_
    exact AQ.done1 (Imm.le_refl _) Tryz.results148 rfl ⟨(I_c (by unfold mget; first | exact if_f (fun hh => by first | omega | (rw [getD_of hx] at hh; have := hh.2.2.2; unfold right at this; omega)) | (rw [getD_of hx]; exact if_t ⟨by omega, by omega, by omega, ⟨by omega, by omega⟩⟩))), rfl⟩
  · refine AQ.move (.on rfl rfl rfl) rfl rfl ?_
    refine AQ.move (.on rfl rfl rfl) rfl rfl ?_
    refine AQ.lenz (.on rfl rfl rfl) (.sl rfl) rfl Tryz.underlying38 (by first | (simp only [List.length_map]; rfl) | rfl) ?_
    refine AQ.geq (.on rfl rfl rfl) rfl rfl rfl ?_
    refine AQ.pick_f (.plain rfl) rfl rfl rfl ?_
    refine AQ.move (.plain rfl) rfl rfl ?_
    refine AQ.split (t := 13) rfl (fun h2 => ?_) (fun h2 => ?_)
    · refine AQ.off rfl rfl rfl rfl ?_
      refine AQ.off rfl rfl rfl rfl ?_
      refine AQ.pick_t (.plain rfl) rfl rfl rfl ?_
      refine AQ.move (.plain rfl) rfl rfl ?_
      refine AQ.off rfl rfl rfl rfl ?_
      refine AQ.off rfl rfl rfl rfl ?_
      refine AQ.off rfl rfl rfl rfl ?_
      refine AQ.off rfl rfl rfl rfl ?_
      refine AQ.off rfl rfl rfl rfl ?_
      refine AQ.pick_t (.plain rfl) rfl rfl rfl ?_
      refine AQ.move (.plain rfl) rfl rfl ?_
      refine AQ.off rfl rfl rfl rfl ?_
      refine AQ.off rfl rfl rfl rfl ?_
      refine AQ.off rfl rfl rfl rfl ?_
      refine AQ.off rfl rfl rfl rfl ?_
      refine AQ.off rfl rfl rfl rfl ?_
      refine AQ.pick_t (.plain rfl) rfl rfl rfl ?_
      refine AQ.nil ?_
      refine AQ.then_n ?_
      refine AQ.cond_t rfl ?_
      refine AQ.seq ?_
      refine AQ.region ?_
      refine AQ.assign (.plain rfl) rfl rfl ?_
      refine AQ.nil ?_
      refine AQ.then_n ?_
      refine AQ.ret ?_
      refine AQ.then_r ?_
      exact AQ.done1 (Imm.le_refl _) Tryz.results148 rfl ⟨(I_c (by unfold mget; first | exact if_f (fun hh => by first | omega | (rw [getD_of hx] at hh; have := hh.2.2.2; unfold right at this; omega)) | (rw [getD_of hx]; exact if_t ⟨by omega, by omega, by omega, ⟨by omega, by omega⟩⟩))), rfl⟩
    · refine AQ.move (.on rfl rfl rfl) rfl rfl ?_
      refine AQ.geq (.on rfl rfl rfl) rfl rfl rfl ?_
      refine AQ.pick_f (.plain rfl) rfl rfl rfl ?_
      refine AQ.move (.plain rfl) rfl rfl ?_
      refine AQ.split (t := 17) rfl (fun h3 => ?_) (fun h3 => ?_)
      · refine AQ.off rfl rfl rfl rfl ?_
        refine AQ.off rfl rfl rfl rfl ?_
        refine AQ.off rfl rfl rfl rfl ?_
        refine AQ.off rfl rfl rfl rfl ?_
        refine AQ.off rfl rfl rfl rfl ?_
        refine AQ.pick_t (.plain rfl) rfl rfl rfl ?_
        refine AQ.move (.plain rfl) rfl rfl ?_
        refine AQ.off rfl rfl rfl rfl ?_
        refine AQ.off rfl rfl rfl rfl ?_
        refine AQ.off rfl rfl rfl rfl ?_
        refine AQ.off rfl rfl rfl rfl ?_
        refine AQ.off rfl rfl rfl rfl ?_
        refine AQ.pick_t (.plain rfl) rfl rfl rfl ?_
        refine AQ.nil ?_
        refine AQ.then_n ?_
        refine AQ.cond_t rfl ?_
        refine AQ.seq ?_
        refine AQ.region ?_
        refine AQ.assign (.plain rfl) rfl rfl ?_
        refine AQ.nil ?_
        refine AQ.then_n ?_
        refine AQ.ret ?_
        refine AQ.then_r ?_
        exact AQ.done1 (Imm.le_refl _) Tryz.results148 rfl ⟨(I_c (by unfold mget; first | exact if_f (fun hh => by first | omega | (rw [getD_of hx] at hh; have := hh.2.2.2; unfold right at this; omega)) | (rw [getD_of hx]; exact if_t ⟨by omega, by omega, by omega, ⟨by omega, by omega⟩⟩))), rfl⟩
      · refine AQ.move (.on rfl rfl rfl) rfl rfl ?_
        refine AQ.move (.on rfl rfl rfl) rfl rfl ?_
        obtain ⟨x, hx⟩ := lgetz (l := m) (z := i) (by omega) (by omega)
        refine AQ.indexAddr (.on rfl rfl rfl) rfl rfl rfl Tryz.underlying38 ag3 (by omega) (intRows_getz hx) ?_
        refine AQ.load1 (.on rfl rfl rfl) rfl rfl ag3 rfl ?_
        refine AQ.lss (.on rfl rfl rfl) rfl rfl rfl ?_
        refine AQ.pick_f (.plain rfl) rfl rfl rfl ?_
        refine AQ.move (.plain rfl) rfl rfl ?_
        refine AQ.split (t := 24) rfl (fun h4 => ?_) (fun h4 => ?_)
        · refine AQ.off rfl rfl rfl rfl ?_
          refine AQ.off rfl rfl rfl rfl ?_
          refine AQ.off rfl rfl rfl rfl ?_
          refine AQ.off rfl rfl rfl rfl ?_
          refine AQ.off rfl rfl rfl rfl ?_
          refine AQ.pick_t (.plain rfl) rfl rfl rfl ?_
          refine AQ.nil ?_
          refine AQ.then_n ?_
          refine AQ.cond_t rfl ?_
          refine AQ.seq ?_
          refine AQ.region ?_
          refine AQ.assign (.plain rfl) rfl rfl ?_
          refine AQ.nil ?_
          refine AQ.then_n ?_
          refine AQ.ret ?_
          refine AQ.then_r ?_
          exact AQ.done1 (Imm.le_refl _) Tryz.results148 rfl ⟨(I_c (by unfold mget; first | exact if_f (fun hh => by first | omega | (rw [getD_of hx] at hh; have := hh.2.2.2; unfold right at this; omega)) | (rw [getD_of hx]; exact if_t ⟨by omega, by omega, by omega, ⟨by omega, by omega⟩⟩))), rfl⟩
        · refine AQ.move (.on rfl rfl rfl) rfl rfl ?_
          refine AQ.move (.on rfl rfl rfl) rfl rfl ?_
          refine AQ.indexAddr (.on rfl rfl rfl) rfl rfl rfl Tryz.underlying38 ag3 (by omega) (intRows_getz hx) ?_
          refine AQ.load1 (.on rfl rfl rfl) rfl rfl ag3 rfl ?_
          refine AQ.gtr (.on rfl rfl rfl) rfl rfl rfl ?_
          refine AQ.pick_f (.plain rfl) rfl rfl rfl ?_
          refine AQ.nil ?_
          refine AQ.then_n ?_
          refine AQ.cond_d rfl (fun h5 => ?_) (fun h5 => ?_)
          · refine AQ.seq ?_
            refine AQ.region ?_
            refine AQ.assign (.plain rfl) rfl rfl ?_
            refine AQ.nil ?_
            refine AQ.then_n ?_
            refine AQ.ret ?_
            refine AQ.then_r ?_
            exact AQ.done1 (Imm.le_refl _) Tryz.results148 rfl ⟨(I_c (by unfold mget; first | exact if_f (fun hh => by first | omega | (rw [getD_of hx] at hh; have := hh.2.2.2; unfold right at this; omega)) | (rw [getD_of hx]; exact if_t ⟨by omega, by omega, by omega, ⟨by omega, by omega⟩⟩))), rfl⟩
          · refine AQ.skip ?_
            refine AQ.then_n ?_
            refine AQ.seq ?_
            refine AQ.region ?_
            refine AQ.move (.plain rfl) rfl rfl ?_
            refine AQ.move (.plain rfl) rfl rfl ?_
            refine AQ.indexAddr (.plain rfl) rfl rfl rfl Tryz.underlying38 ag3 (by omega) (intRows_getz hx) ?_
            refine AQ.load1 (.plain rfl) rfl rfl ag3 rfl ?_
            refine AQ.assign (.plain rfl) rfl rfl ?_
            refine AQ.nil ?_
            refine AQ.then_n ?_
            refine AQ.ret ?_
            exact AQ.done1 (Imm.le_refl _) Tryz.results148 rfl ⟨(I_c (by unfold mget; first | exact if_f (fun hh => by first | omega | (rw [getD_of hx] at hh; have := hh.2.2.2; unfold right at this; omega)) | (rw [getD_of hx]; exact if_t ⟨by omega, by omega, by omega, ⟨by omega, by omega⟩⟩))), rfl⟩
theorem ref05May (m : List Int) (H : List HA)  : AC Tryz.prog 152 [ints m] (H) (fun r' H' => r' = (B (MapMay m)) ∧ H' = H) := by
  refine AC.enter Tryz.func152 rfl Tryz.ntmps152 rfl (fun I0 => ?_)
  refine AQ.slB (t := 0) rfl (fun z1 => ?_)
  simp only [List.length_map] at z1
  refine AQ.seq ?_
  refine AQ.region ?_
  refine AQ.assign (.plain rfl) rfl rfl ?_
  refine AQ.nil ?_
  refine AQ.then_n ?_
  refine AQ.seq ?_
  refine AQ.seq ?_
  refine AQ.region ?_
  refine AQ.assign (.plain rfl) rfl rfl ?_
  refine AQ.nil ?_
  refine AQ.then_n ?_
  refine AQ.block ?_
  refine AQ.loop (σ := Nat) (fun s => [(0, ints m), (3, I (s : Int))]) (fun s => H) (fun s => s ≤ m.length ∧ ∀ y ∈ m.take s, right y) (fun s => m.length - s) 0 (by simp) ⟨rfl, rfl, trivial⟩ rfl (fun s hs => ?_)
  refine AQ.seq ?_
  refine AQ.seq ?_
  refine AQ.region ?_
  refine AQ.move (.plain rfl) rfl rfl ?_
  refine AQ.move (.plain rfl) rfl rfl ?_
  refine AQ.lenz (.plain rfl) (.sl rfl) rfl Tryz.underlying38 (by first | (simp only [List.length_map]; rfl) | rfl) ?_
  refine AQ.lss (.plain rfl) rfl rfl rfl ?_
  refine AQ.nil ?_
  refine AQ.then_n ?_
  refine AQ.cond_d rfl (fun h1 => ?_) (fun h1 => ?_)
  · refine AQ.skip ?_
    refine AQ.then_n ?_
    refine AQ.seq ?_
    refine AQ.block ?_
    refine AQ.seq ?_
    refine AQ.region ?_
    refine AQ.move (.plain rfl) rfl rfl ?_
    refine AQ.move (.plain rfl) rfl rfl ?_
    obtain ⟨x, hx⟩ := lgetz (l := m) (z := (s : Int)) (by omega) (by omega)
    refine AQ.indexAddr (.plain rfl) rfl rfl rfl Tryz.underlying38 ag3 (by omega) (intRows_getz hx) ?_
    have hx0 := hx
    rw [Int.toNat_natCast] at hx
    refine AQ.load1 (.plain rfl) rfl rfl ag3 rfl ?_
    refine AQ.lss (.plain rfl) rfl rfl rfl ?_
    refine AQ.move (.plain rfl) rfl rfl ?_
    refine AQ.split (t := 15) rfl (fun h2 => ?_) (fun h2 => ?_)
    · refine AQ.off rfl rfl rfl rfl ?_
      refine AQ.off rfl rfl rfl rfl ?_
      refine AQ.off rfl rfl rfl rfl ?_
      refine AQ.off rfl rfl rfl rfl ?_
      refine AQ.off rfl rfl rfl rfl ?_
      refine AQ.pick_t (.plain rfl) rfl rfl rfl ?_
      refine AQ.nil ?_
      refine AQ.then_n ?_
      refine AQ.cond_t rfl ?_
      refine AQ.seq ?_
      refine AQ.region ?_
      refine AQ.assign (.plain rfl) rfl rfl ?_
      refine AQ.nil ?_
      refine AQ.then_n ?_
      refine AQ.ret ?_
      refine AQ.block_r ?_
      refine AQ.then_r ?_
      refine AQ.then_r ?_
      refine AQ.block_r ?_
      refine AQ.then_r ?_
      exact AQ.done1 (Imm.le_refl _) Tryz.results152 rfl ⟨(by unfold MapMay; first | exact B_f (fun hh => by have := hh.2.1 x (List.mem_of_getElem? hx); unfold right at this; omega) | (have ha : ∀ y ∈ m, right y := (by have h := hs.2; rwa [List.take_of_length_le (by omega)] at h); first | exact B_t ⟨by omega, ha, .inl (by omega)⟩ | exact B_c ⟨fun h => ⟨by omega, ha, .inr (by rw [getD_of hx]; exact h)⟩, fun h => by have := h.2.2.resolve_left (by omega); rwa [getD_of hx] at this⟩) | exact B_f (by omega)), rfl⟩
    · refine AQ.move (.on rfl rfl rfl) rfl rfl ?_
      refine AQ.move (.on rfl rfl rfl) rfl rfl ?_
      refine AQ.indexAddr (.on rfl rfl rfl) rfl rfl rfl Tryz.underlying38 ag3 (by omega) (intRows_getz hx0) ?_
      refine AQ.load1 (.on rfl rfl rfl) rfl rfl ag3 rfl ?_
      refine AQ.gtr (.on rfl rfl rfl) rfl rfl rfl ?_
      refine AQ.pick_f (.plain rfl) rfl rfl rfl ?_
      refine AQ.nil ?_
      refine AQ.then_n ?_
      refine AQ.cond_d rfl (fun h3 => ?_) (fun h3 => ?_)
      · refine AQ.seq ?_
        refine AQ.region ?_
        refine AQ.assign (.plain rfl) rfl rfl ?_
        refine AQ.nil ?_
        refine AQ.then_n ?_
        refine AQ.ret ?_
        refine AQ.block_r ?_
        refine AQ.then_r ?_
        refine AQ.then_r ?_
        refine AQ.block_r ?_
        refine AQ.then_r ?_
        exact AQ.done1 (Imm.le_refl _) Tryz.results152 rfl ⟨(by unfold MapMay; first | exact B_f (fun hh => by have := hh.2.1 x (List.mem_of_getElem? hx); unfold right at this; omega) | (have ha : ∀ y ∈ m, right y := (by have h := hs.2; rwa [List.take_of_length_le (by omega)] at h); first | exact B_t ⟨by omega, ha, .inl (by omega)⟩ | exact B_c ⟨fun h => ⟨by omega, ha, .inr (by rw [getD_of hx]; exact h)⟩, fun h => by have := h.2.2.resolve_left (by omega); rwa [getD_of hx] at this⟩) | exact B_f (by omega)), rfl⟩
      · refine AQ.skip ?_
        refine AQ.block_n ?_
        refine AQ.then_n ?_
        refine AQ.region ?_
        refine AQ.move (.plain rfl) rfl rfl ?_
        refine AQ.add (.plain rfl) rfl rfl rfl (i64_id (by omega) (by omega)) ?_
        refine AQ.assign (.plain rfl) rfl rfl ?_
        refine AQ.nil ?_
        exact AQ.again (Imm.le_refl _) (s + 1) ⟨by omega, by intro y hy; rw [List.take_add_one, hx] at hy; rcases List.mem_append.1 hy with hy | hy; exact hs.2 y hy; simp at hy; subst hy; exact ⟨by omega, by omega⟩⟩ (by omega) ⟨rfl, rfl, trivial⟩ rfl
  · refine AQ.exit ?_
    refine AQ.then_e ?_
    refine AQ.then_e ?_
    refine AQ.block_hit ?_
    refine AQ.then_n ?_
    refine AQ.seq ?_
    refine AQ.region ?_
    refine AQ.move (.plain rfl) rfl rfl ?_
    refine AQ.lenz (.plain rfl) (.sl rfl) rfl Tryz.underlying38 (by first | (simp only [List.length_map]; rfl) | rfl) ?_
    refine AQ.leq (.plain rfl) rfl rfl rfl ?_
    refine AQ.move (.plain rfl) rfl rfl ?_
    refine AQ.split (t := 25) rfl (fun h4 => ?_) (fun h4 => ?_)
    · refine AQ.move (.on rfl rfl rfl) rfl rfl ?_
      refine AQ.lenz (.on rfl rfl rfl) (.sl rfl) rfl Tryz.underlying38 (by first | (simp only [List.length_map]; rfl) | rfl) ?_
      refine AQ.eql (.on rfl rfl rfl) rfl rfl rfl ?_
      refine AQ.move (.on rfl rfl rfl) rfl rfl ?_
      refine AQ.split (t := 29) rfl (fun h5 => ?_) (fun h5 => ?_)
      · refine AQ.off rfl rfl rfl rfl ?_
        refine AQ.off rfl rfl rfl rfl ?_
        refine AQ.off rfl rfl rfl rfl ?_
        refine AQ.off rfl rfl rfl rfl ?_
        refine AQ.off rfl rfl rfl rfl ?_
        refine AQ.off rfl rfl rfl rfl ?_
        refine AQ.off rfl rfl rfl rfl ?_
        refine AQ.pick_t (.on rfl rfl rfl) rfl rfl rfl ?_
        refine AQ.pick_t (.plain rfl) rfl rfl rfl ?_
        refine AQ.assign (.plain rfl) rfl rfl ?_
        refine AQ.nil ?_
        refine AQ.then_n ?_
        refine AQ.ret ?_
        exact AQ.done1 (Imm.le_refl _) Tryz.results152 rfl ⟨(by unfold MapMay; first | exact B_f (fun hh => by have := hh.2.1 x (List.mem_of_getElem? hx); unfold right at this; omega) | (have ha : ∀ y ∈ m, right y := (by have h := hs.2; rwa [List.take_of_length_le (by omega)] at h); first | exact B_t ⟨by omega, ha, .inl (by omega)⟩ | exact B_c ⟨fun h => ⟨by omega, ha, .inr (by rw [getD_of hx]; exact h)⟩, fun h => by have := h.2.2.resolve_left (by omega); rwa [getD_of hx] at this⟩) | exact B_f (by omega)), rfl⟩
      · refine AQ.move (.on rfl rfl rfl) rfl rfl ?_
        refine AQ.move (.on rfl rfl rfl) rfl rfl ?_
        refine AQ.lenz (.on rfl rfl rfl) (.sl rfl) rfl Tryz.underlying38 (by first | (simp only [List.length_map]; rfl) | rfl) ?_
        refine AQ.sub (.on rfl rfl rfl) rfl rfl rfl (i64_id (by omega) (by omega)) ?_
        obtain ⟨x, hx⟩ := lgetz (l := m) (z := ((m.length : Int) - 1)) (by omega) (by omega)
        refine AQ.indexAddr (.on rfl rfl rfl) rfl rfl rfl Tryz.underlying38 ag3 (by omega) (intRows_getz hx) ?_
        rw [show ((m.length : Int) - 1).toNat = m.length - 1 by omega] at hx
        refine AQ.load1 (.on rfl rfl rfl) rfl rfl ag3 rfl ?_
        refine AQ.neq (.on rfl rfl rfl) rfl rfl rfl ?_
        refine AQ.pick_f (.on rfl rfl rfl) rfl rfl rfl ?_
        refine AQ.pick_t (.plain rfl) rfl rfl rfl ?_
        refine AQ.assign (.plain rfl) rfl rfl ?_
        refine AQ.nil ?_
        refine AQ.then_n ?_
        refine AQ.ret ?_
        exact AQ.done1 (Imm.le_refl _) Tryz.results152 rfl ⟨(by unfold MapMay; first | exact B_f (fun hh => by have := hh.2.1 x (List.mem_of_getElem? hx); unfold right at this; omega) | (have ha : ∀ y ∈ m, right y := (by have h := hs.2; rwa [List.take_of_length_le (by omega)] at h); first | exact B_t ⟨by omega, ha, .inl (by omega)⟩ | exact B_c ⟨fun h => ⟨by omega, ha, .inr (by rw [getD_of hx]; exact h)⟩, fun h => by have := h.2.2.resolve_left (by omega); rwa [getD_of hx] at this⟩) | exact B_f (by omega)), rfl⟩
    · refine AQ.off rfl rfl rfl rfl ?_
      refine AQ.off rfl rfl rfl rfl ?_
      refine AQ.off rfl rfl rfl rfl ?_
      refine AQ.off rfl rfl rfl rfl ?_
      refine AQ.off_u rfl rfl rfl ?_
      refine AQ.off_u rfl rfl rfl ?_
      refine AQ.off_u rfl rfl rfl ?_
      refine AQ.off_u rfl rfl rfl ?_
      refine AQ.off_u rfl rfl rfl ?_
      refine AQ.off_u rfl rfl rfl ?_
      refine AQ.off_u rfl rfl rfl ?_
      refine AQ.off rfl rfl rfl rfl ?_
      refine AQ.pick_f (.plain rfl) rfl rfl rfl ?_
      refine AQ.assign (.plain rfl) rfl rfl ?_
      refine AQ.nil ?_
      refine AQ.then_n ?_
      refine AQ.ret ?_
      exact AQ.done1 (Imm.le_refl _) Tryz.results152 rfl ⟨(by unfold MapMay; first | exact B_f (fun hh => by have := hh.2.1 x (List.mem_of_getElem? hx); unfold right at this; omega) | (have ha : ∀ y ∈ m, right y := (by have h := hs.2; rwa [List.take_of_length_le (by omega)] at h); first | exact B_t ⟨by omega, ha, .inl (by omega)⟩ | exact B_c ⟨fun h => ⟨by omega, ha, .inr (by rw [getD_of hx]; exact h)⟩, fun h => by have := h.2.2.resolve_left (by omega); rwa [getD_of hx] at this⟩) | exact B_f (by omega)), rfl⟩
theorem ref05Row (m : List Int) (H : List HA)  : AC Tryz.prog 156 [ints m] (H) (fun r H' => ∃ v, r = .val v ∧ H' = .osl v 3 1 (intRows (rowL m)) :: H) := by
  refine AC.enter Tryz.func156 rfl Tryz.ntmps156 rfl (fun I0 => ?_)
  refine AQ.slB (t := 0) rfl (fun z1 => ?_)
  simp only [List.length_map] at z1
  refine AQ.seq ?_
  refine AQ.region ?_
  refine AQ.assign (.plain rfl) rfl rfl ?_
  refine AQ.nil ?_
  refine AQ.then_n ?_
  refine AQ.seq ?_
  refine AQ.region ?_
  refine AQ.assign (.plain rfl) rfl rfl ?_
  refine AQ.nil ?_
  refine AQ.then_n ?_
  refine AQ.seq ?_
  refine AQ.seq ?_
  refine AQ.region ?_
  refine AQ.assign (.plain rfl) rfl rfl ?_
  refine AQ.nil ?_
  refine AQ.then_n ?_
  refine AQ.block ?_
  refine AQ.loop (σ := Nat) (fun s => [(0, ints m), (3, I (rowN m s : Int)), (4, I (s : Int))]) (fun s => H) (fun s => s ≤ min m.length 512) (fun s => min m.length 512 - s) 0 (by omega) ⟨rfl, rfl, rfl, trivial⟩ rfl (fun s hs => ?_)
  refine AQ.seq ?_
  refine AQ.seq ?_
  refine AQ.region ?_
  refine AQ.move (.plain rfl) rfl rfl ?_
  refine AQ.move (.plain rfl) rfl rfl ?_
  refine AQ.lenz (.plain rfl) (.sl rfl) rfl Tryz.underlying38 (by first | (simp only [List.length_map]; rfl) | rfl) ?_
  refine AQ.lss (.plain rfl) rfl rfl rfl ?_
  refine AQ.move (.plain rfl) rfl rfl ?_
  refine AQ.split (t := 11) rfl (fun h1 => ?_) (fun h1 => ?_)
  · refine AQ.move (.on rfl rfl rfl) rfl rfl ?_
    refine AQ.lss (.on rfl rfl rfl) rfl rfl rfl ?_
    refine AQ.pick_t (.plain rfl) rfl rfl rfl ?_
    refine AQ.nil ?_
    refine AQ.then_n ?_
    refine AQ.cond_d rfl (fun h2 => ?_) (fun h2 => ?_)
    · refine AQ.skip ?_
      refine AQ.then_n ?_
      refine AQ.seq ?_
      refine AQ.block ?_
      refine AQ.seq ?_
      refine AQ.region ?_
      refine AQ.move (.plain rfl) rfl rfl ?_
      refine AQ.move (.plain rfl) rfl rfl ?_
      refine AQ.callf (.plain rfl) rfl rfl en148 (ref05Get _ _ _) ?_
      refine AQ.neq (.plain rfl) rfl rfl rfl ?_
      refine AQ.nil ?_
      refine AQ.then_n ?_
      refine AQ.cond_d rfl (fun h3 => ?_) (fun h3 => ?_)
      · refine AQ.region ?_
        refine AQ.move (.plain rfl) rfl rfl ?_
        refine AQ.add (.plain rfl) rfl rfl rfl (i64_id (by omega) (by omega)) ?_
        refine AQ.assign (.plain rfl) rfl rfl ?_
        refine AQ.nil ?_
        refine AQ.block_n ?_
        refine AQ.then_n ?_
        refine AQ.region ?_
        refine AQ.move (.plain rfl) rfl rfl ?_
        refine AQ.add (.plain rfl) rfl rfl rfl (i64_id (by omega) (by omega)) ?_
        refine AQ.assign (.plain rfl) rfl rfl ?_
        refine AQ.nil ?_
        exact AQ.again (Imm.le_refl _) (s + 1) (by omega) (by omega) ⟨rfl, by rw [rowN_step, if_pos (by assumption)]; rfl, rfl, trivial⟩ rfl
      · refine AQ.skip ?_
        refine AQ.block_n ?_
        refine AQ.then_n ?_
        refine AQ.region ?_
        refine AQ.move (.plain rfl) rfl rfl ?_
        refine AQ.add (.plain rfl) rfl rfl rfl (i64_id (by omega) (by omega)) ?_
        refine AQ.assign (.plain rfl) rfl rfl ?_
        refine AQ.nil ?_
        exact AQ.again (Imm.le_refl _) (s + 1) (by omega) (by omega) ⟨rfl, by rw [rowN_step, if_neg (by assumption)]; rfl, rfl, trivial⟩ rfl
    · refine AQ.exit ?_
      refine AQ.then_e ?_
      refine AQ.then_e ?_
      refine AQ.block_hit ?_
      refine AQ.then_n ?_
      refine AQ.seq ?_
      refine AQ.region ?_
      refine AQ.assign (.plain rfl) rfl rfl ?_
      refine AQ.nil ?_
      refine AQ.then_n ?_
      refine AQ.seq ?_
      refine AQ.seq ?_
      refine AQ.region ?_
      refine AQ.assign (.plain rfl) rfl rfl ?_
      refine AQ.nil ?_
      refine AQ.then_n ?_
      refine AQ.block ?_
      have hN : rowN m (min m.length 512) ≤ 512 := Nat.le_trans (lastN_le _ _) (by omega)
      have hes : s = min m.length 512 := (by omega)
      subst hes
      refine AQ.ownNil (A := none) 3 1 ?_
      refine AQ.loop (σ := Nat × Value) (fun s => [(0, ints m), (3, I (rowN m (min m.length 512) : Int)), (5, .val s.2), (6, I (s.1 : Int))]) (fun s => .osl s.2 3 1 (intRows ((List.range s.1).map fun i : Nat => mget m i)) :: H) (fun s => s.1 ≤ rowN m (min m.length 512)) (fun s => rowN m (min m.length 512) - s.1) (0, Value.slice none 0 0) (by simp) ⟨rfl, rfl, rfl, rfl, trivial⟩ rfl (fun s hs => ?_)
      refine AQ.seq ?_
      refine AQ.seq ?_
      refine AQ.region ?_
      refine AQ.move (.plain rfl) rfl rfl ?_
      refine AQ.move (.plain rfl) rfl rfl ?_
      refine AQ.lss (.plain rfl) rfl rfl rfl ?_
      refine AQ.nil ?_
      refine AQ.then_n ?_
      refine AQ.cond_d rfl (fun h4 => ?_) (fun h4 => ?_)
      · refine AQ.skip ?_
        refine AQ.then_n ?_
        refine AQ.seq ?_
        refine AQ.block ?_
        refine AQ.region ?_
        refine AQ.move (.plain rfl) rfl rfl ?_
        refine AQ.move (.plain rfl) rfl rfl ?_
        refine AQ.move (.plain rfl) rfl rfl ?_
        refine AQ.callf (.plain rfl) rfl rfl en148 (ref05Get _ _ _) ?_
        refine AQ.buildSlice (rows := [[_]]) (.plain rfl) rfl Tryz.underlying38 el3 zo3 rfl rfl rfl (.one rfl (.val rfl) rfl rfl .nil) rfl rfl (by simp) (fun u5 => ?_)
        refine AQ.append (.plain rfl) rfl 1 rfl (.osl rfl 0 rfl) rfl Tryz.underlying38 el3 rfl rfl (by simp only [List.length_cons, List.length_nil, List.length_map, List.length_append, List.length_range]; omega) (fun v6 => ?_)
        try simp only [List.set_cons_zero, List.set_cons_succ]
        refine AQ.assign (.plain rfl) rfl rfl ?_
        refine AQ.nil ?_
        refine AQ.block_n ?_
        refine AQ.then_n ?_
        refine AQ.region ?_
        refine AQ.move (.plain rfl) rfl rfl ?_
        refine AQ.add (.plain rfl) rfl rfl rfl (i64_id (by omega) (by omega)) ?_
        refine AQ.assign (.plain rfl) rfl rfl ?_
        refine AQ.nil ?_
        refine AQ.dropN 1 ?_
        refine AQ.eqH (H' := _ :: H) rfl ?_
        exact AQ.again (Imm.le_refl _) (s.1 + 1, _) (by simp only; omega) (by simp only; omega) ⟨rfl, rfl, rfl, rfl, trivial⟩ (by simp only [List.range_succ, List.map_append, List.map_cons, List.map_nil])
      · refine AQ.exit ?_
        refine AQ.then_e ?_
        refine AQ.then_e ?_
        refine AQ.block_hit ?_
        refine AQ.then_n ?_
        refine AQ.seq ?_
        refine AQ.region ?_
        refine AQ.move (.plain rfl) rfl rfl ?_
        refine AQ.assign (.plain rfl) rfl rfl ?_
        refine AQ.nil ?_
        refine AQ.then_n ?_
        refine AQ.ret ?_
        exact AQ.done1 (Imm.le_refl _) Tryz.results156 rfl ⟨_, rfl, by rw [rowL_rowN, show s.1 = rowN m (min m.length 512) by omega]⟩
  · refine AQ.off rfl rfl rfl rfl ?_
    refine AQ.off rfl rfl rfl rfl ?_
    refine AQ.pick_f (.plain rfl) rfl rfl rfl ?_
    refine AQ.nil ?_
    refine AQ.then_n ?_
    refine AQ.cond_f rfl ?_
    refine AQ.exit ?_
    refine AQ.then_e ?_
    refine AQ.then_e ?_
    refine AQ.block_hit ?_
    refine AQ.then_n ?_
    refine AQ.seq ?_
    refine AQ.region ?_
    refine AQ.assign (.plain rfl) rfl rfl ?_
    refine AQ.nil ?_
    refine AQ.then_n ?_
    refine AQ.seq ?_
    refine AQ.seq ?_
    refine AQ.region ?_
    refine AQ.assign (.plain rfl) rfl rfl ?_
    refine AQ.nil ?_
    refine AQ.then_n ?_
    refine AQ.block ?_
    have hN : rowN m (min m.length 512) ≤ 512 := Nat.le_trans (lastN_le _ _) (by omega)
    have hes : s = min m.length 512 := (by omega)
    subst hes
    refine AQ.ownNil (A := none) 3 1 ?_
    refine AQ.loop (σ := Nat × Value) (fun s => [(0, ints m), (3, I (rowN m (min m.length 512) : Int)), (5, .val s.2), (6, I (s.1 : Int))]) (fun s => .osl s.2 3 1 (intRows ((List.range s.1).map fun i : Nat => mget m i)) :: H) (fun s => s.1 ≤ rowN m (min m.length 512)) (fun s => rowN m (min m.length 512) - s.1) (0, Value.slice none 0 0) (by simp) ⟨rfl, rfl, rfl, rfl, trivial⟩ rfl (fun s hs => ?_)
    refine AQ.seq ?_
    refine AQ.seq ?_
    refine AQ.region ?_
    refine AQ.move (.plain rfl) rfl rfl ?_
    refine AQ.move (.plain rfl) rfl rfl ?_
    refine AQ.lss (.plain rfl) rfl rfl rfl ?_
    refine AQ.nil ?_
    refine AQ.then_n ?_
    refine AQ.cond_d rfl (fun h7 => ?_) (fun h7 => ?_)
    · refine AQ.skip ?_
      refine AQ.then_n ?_
      refine AQ.seq ?_
      refine AQ.block ?_
      refine AQ.region ?_
      refine AQ.move (.plain rfl) rfl rfl ?_
      refine AQ.move (.plain rfl) rfl rfl ?_
      refine AQ.move (.plain rfl) rfl rfl ?_
      refine AQ.callf (.plain rfl) rfl rfl en148 (ref05Get _ _ _) ?_
      refine AQ.buildSlice (rows := [[_]]) (.plain rfl) rfl Tryz.underlying38 el3 zo3 rfl rfl rfl (.one rfl (.val rfl) rfl rfl .nil) rfl rfl (by simp) (fun u8 => ?_)
      refine AQ.append (.plain rfl) rfl 1 rfl (.osl rfl 0 rfl) rfl Tryz.underlying38 el3 rfl rfl (by simp only [List.length_cons, List.length_nil, List.length_map, List.length_append, List.length_range]; omega) (fun v9 => ?_)
      try simp only [List.set_cons_zero, List.set_cons_succ]
      refine AQ.assign (.plain rfl) rfl rfl ?_
      refine AQ.nil ?_
      refine AQ.block_n ?_
      refine AQ.then_n ?_
      refine AQ.region ?_
      refine AQ.move (.plain rfl) rfl rfl ?_
      refine AQ.add (.plain rfl) rfl rfl rfl (i64_id (by omega) (by omega)) ?_
      refine AQ.assign (.plain rfl) rfl rfl ?_
      refine AQ.nil ?_
      refine AQ.dropN 1 ?_
      refine AQ.eqH (H' := _ :: H) rfl ?_
      exact AQ.again (Imm.le_refl _) (s.1 + 1, _) (by simp only; omega) (by simp only; omega) ⟨rfl, rfl, rfl, rfl, trivial⟩ (by simp only [List.range_succ, List.map_append, List.map_cons, List.map_nil])
    · refine AQ.exit ?_
      refine AQ.then_e ?_
      refine AQ.then_e ?_
      refine AQ.block_hit ?_
      refine AQ.then_n ?_
      refine AQ.seq ?_
      refine AQ.region ?_
      refine AQ.move (.plain rfl) rfl rfl ?_
      refine AQ.assign (.plain rfl) rfl rfl ?_
      refine AQ.nil ?_
      refine AQ.then_n ?_
      refine AQ.ret ?_
      exact AQ.done1 (Imm.le_refl _) Tryz.results156 rfl ⟨_, rfl, by rw [rowL_rowN, show s.1 = rowN m (min m.length 512) by omega]⟩
theorem ref03Objects (l : Layout) (size : Int) (H : List HA)  : AC Tryz.prog 153 [.agg l.cells, I size] (H) (fun r' H' => r' = (I (if l.May ∧ size ≤ 512 then objR l size.toNat else 0)) ∧ H' = H) := by
  refine AC.enter Tryz.func153 rfl Tryz.ntmps153 rfl (fun I0 => ?_)
  refine AQ.seq ?_
  refine AQ.region ?_
  refine AQ.boxA (.plain rfl) rfl rfl (fun b1 => ?_)
  refine AQ.assign (.plain rfl) rfl rfl ?_
  refine AQ.nil ?_
  refine AQ.then_n ?_
  refine AQ.seq ?_
  refine AQ.region ?_
  refine AQ.loadvA (.plain rfl) rfl 0 rfl rfl ag37 rfl rfl ?_
  refine AQ.callf (.plain rfl) rfl rfl en32 (ref03May _ _) ?_
  refine AQ.assign (.plain rfl) rfl rfl ?_
  refine AQ.nil ?_
  refine AQ.then_n ?_
  refine AQ.seq ?_
  refine AQ.region ?_
  refine AQ.assign (.plain rfl) rfl rfl ?_
  refine AQ.nil ?_
  refine AQ.then_n ?_
  refine AQ.seq ?_
  refine AQ.seq ?_
  refine AQ.region ?_
  refine AQ.assign (.plain rfl) rfl rfl ?_
  refine AQ.nil ?_
  refine AQ.then_n ?_
  refine AQ.block ?_
  refine AQ.loop (σ := Nat) (fun s => [(1, I size), (2, .val (.pointer (some ⟨b1, 0, none⟩))), (5, B l.May), (6, I (objR l s)), (7, I (s : Int))]) (fun s => .box b1 37 l.cells :: H) (fun s => ((s : Int) ≤ size ∨ s = 0) ∧ (s = 0 ∨ (l.May ∧ size ≤ 512))) (fun s => size.toNat - s) 0 ⟨.inr rfl, .inl rfl⟩ ⟨rfl, rfl, rfl, rfl, rfl, trivial⟩ rfl (fun s hs => ?_)
  refine AQ.seq ?_
  refine AQ.seq ?_
  refine AQ.region ?_
  refine AQ.move (.plain rfl) rfl rfl ?_
  refine AQ.move (.plain rfl) rfl rfl ?_
  refine AQ.split (t := 13) rfl (fun h2 => ?_) (fun h2 => ?_)
  · refine AQ.move (.on rfl rfl rfl) rfl rfl ?_
    refine AQ.move (.on rfl rfl rfl) rfl rfl ?_
    refine AQ.lss (.on rfl rfl rfl) rfl rfl rfl ?_
    refine AQ.pick_t (.plain rfl) rfl rfl rfl ?_
    refine AQ.move (.plain rfl) rfl rfl ?_
    refine AQ.split (t := 18) rfl (fun h3 => ?_) (fun h3 => ?_)
    · refine AQ.move (.on rfl rfl rfl) rfl rfl ?_
      refine AQ.leq (.on rfl rfl rfl) rfl rfl rfl ?_
      refine AQ.pick_t (.plain rfl) rfl rfl rfl ?_
      refine AQ.nil ?_
      refine AQ.then_n ?_
      refine AQ.cond_d rfl (fun h4 => ?_) (fun h4 => ?_)
      · refine AQ.skip ?_
        refine AQ.then_n ?_
        refine AQ.seq ?_
        refine AQ.block ?_
        refine AQ.seq ?_
        refine AQ.region ?_
        refine AQ.loadvA (.plain rfl) rfl 0 rfl rfl ag37 rfl rfl ?_
        refine AQ.move (.plain rfl) rfl rfl ?_
        refine AQ.callf (.plain rfl) rfl rfl en215 (ref03place l (s : Int) _ (by assumption) (by omega) (by omega)) ?_
        refine AQ.move (.plain rfl) rfl rfl ?_
        refine AQ.extract (.plain rfl) rfl rfl rfl ?_
        refine AQ.extract (.plain rfl) rfl rfl rfl ?_
        refine AQ.assign (.plain rfl) rfl rfl ?_
        refine AQ.assign (.plain rfl) rfl rfl ?_
        refine AQ.nil ?_
        refine AQ.then_n ?_
        refine AQ.region ?_
        refine AQ.move (.plain rfl) rfl rfl ?_
        refine AQ.move (.plain rfl) rfl rfl ?_
        have hpf := back_place (l := l) (i := (s : Int)) (by assumption) (by omega)
        have hpo : placeO l (s : Int) ≤ s * 8 + 8 := (by have := placeFacts (l := l) (off := (s : Int)) (by assumption) (by omega); obtain ⟨f1, f2, f3, f4, f5, f6, f7, f8, f9, f10⟩ := this; unfold placeO; omega)
        refine AQ.add (.plain rfl) rfl rfl rfl (i64_id (by omega) (by omega)) ?_
        refine AQ.max2 (.plain rfl) rfl rfl rfl ?_
        refine AQ.assign (.plain rfl) rfl rfl ?_
        refine AQ.nil ?_
        refine AQ.block_n ?_
        refine AQ.then_n ?_
        refine AQ.region ?_
        refine AQ.move (.plain rfl) rfl rfl ?_
        refine AQ.add (.plain rfl) rfl rfl rfl (i64_id (by omega) (by omega)) ?_
        refine AQ.assign (.plain rfl) rfl rfl ?_
        refine AQ.nil ?_
        exact AQ.again (Imm.le_refl _) (s + 1) ⟨by omega, .inr ⟨by assumption, by omega⟩⟩ (by omega) ⟨rfl, rfl, rfl, rfl, rfl, trivial⟩ rfl
      · refine AQ.exit ?_
        refine AQ.then_e ?_
        refine AQ.then_e ?_
        refine AQ.block_hit ?_
        refine AQ.then_n ?_
        refine AQ.seq ?_
        refine AQ.region ?_
        refine AQ.move (.plain rfl) rfl rfl ?_
        refine AQ.assign (.plain rfl) rfl rfl ?_
        refine AQ.nil ?_
        refine AQ.then_n ?_
        refine AQ.ret ?_
        refine AQ.dropN 1 ?_
        refine AQ.eqH (H' := H) rfl ?_
        exact AQ.done1 (Imm.le_refl _) Tryz.results153 rfl ⟨(I_c (by first | exact if_t_eq ⟨by assumption, by omega⟩ (by congr 1; omega) | exact if_f_eq (fun hh => by first | omega | exact absurd hh.1 (by assumption)) (by rw [show s = 0 by rcases hs.2 with h0 | h0; exact h0; first | exact absurd h0.1 (by assumption) | omega]; rfl))), rfl⟩
    · refine AQ.off rfl rfl rfl rfl ?_
      refine AQ.off rfl rfl rfl rfl ?_
      refine AQ.pick_f (.plain rfl) rfl rfl rfl ?_
      refine AQ.nil ?_
      refine AQ.then_n ?_
      refine AQ.cond_f rfl ?_
      refine AQ.exit ?_
      refine AQ.then_e ?_
      refine AQ.then_e ?_
      refine AQ.block_hit ?_
      refine AQ.then_n ?_
      refine AQ.seq ?_
      refine AQ.region ?_
      refine AQ.move (.plain rfl) rfl rfl ?_
      refine AQ.assign (.plain rfl) rfl rfl ?_
      refine AQ.nil ?_
      refine AQ.then_n ?_
      refine AQ.ret ?_
      refine AQ.dropN 1 ?_
      refine AQ.eqH (H' := H) rfl ?_
      exact AQ.done1 (Imm.le_refl _) Tryz.results153 rfl ⟨(I_c (by first | exact if_t_eq ⟨by assumption, by omega⟩ (by congr 1; omega) | exact if_f_eq (fun hh => by first | omega | exact absurd hh.1 (by assumption)) (by rw [show s = 0 by rcases hs.2 with h0 | h0; exact h0; first | exact absurd h0.1 (by assumption) | omega]; rfl))), rfl⟩
  · refine AQ.off rfl rfl rfl rfl ?_
    refine AQ.off rfl rfl rfl rfl ?_
    refine AQ.off rfl rfl rfl rfl ?_
    refine AQ.pick_f (.plain rfl) rfl rfl rfl ?_
    refine AQ.move (.plain rfl) rfl rfl ?_
    refine AQ.off rfl rfl rfl rfl ?_
    refine AQ.off rfl rfl rfl rfl ?_
    refine AQ.pick_f (.plain rfl) rfl rfl rfl ?_
    refine AQ.nil ?_
    refine AQ.then_n ?_
    refine AQ.cond_f rfl ?_
    refine AQ.exit ?_
    refine AQ.then_e ?_
    refine AQ.then_e ?_
    refine AQ.block_hit ?_
    refine AQ.then_n ?_
    refine AQ.seq ?_
    refine AQ.region ?_
    refine AQ.move (.plain rfl) rfl rfl ?_
    refine AQ.assign (.plain rfl) rfl rfl ?_
    refine AQ.nil ?_
    refine AQ.then_n ?_
    refine AQ.ret ?_
    refine AQ.dropN 1 ?_
    refine AQ.eqH (H' := H) rfl ?_
    exact AQ.done1 (Imm.le_refl _) Tryz.results153 rfl ⟨(I_c (by first | exact if_t_eq ⟨by assumption, by omega⟩ (by congr 1; omega) | exact if_f_eq (fun hh => by first | omega | exact absurd hh.1 (by assumption)) (by rw [show s = 0 by rcases hs.2 with h0 | h0; exact h0; first | exact absurd h0.1 (by assumption) | omega]; rfl))), rfl⟩
theorem ref06sized (l : Layout) (size : Int) (m : List Int) (H : List HA) (y0 : l.May) : AC Tryz.prog 80 [.agg l.cells, I size, ints m] (H) (fun r' H' => r' = (B (sizedMay l size m)) ∧ H' = H) := by
  refine AC.enter Tryz.func80 rfl Tryz.ntmps80 rfl (fun I0 => ?_)
  refine AQ.seq ?_
  refine AQ.region ?_
  refine AQ.boxA (.plain rfl) rfl rfl (fun b1 => ?_)
  refine AQ.assign (.plain rfl) rfl rfl ?_
  refine AQ.nil ?_
  refine AQ.then_n ?_
  refine AQ.seq ?_
  refine AQ.region ?_
  refine AQ.move (.plain rfl) rfl rfl ?_
  refine AQ.callf (.plain rfl) rfl rfl en152 (ref05May _ _) ?_
  refine AQ.assign (.plain rfl) rfl rfl ?_
  refine AQ.nil ?_
  refine AQ.then_n ?_
  refine AQ.seq ?_
  refine AQ.region ?_
  refine AQ.move (.plain rfl) rfl rfl ?_
  refine AQ.geq (.plain rfl) rfl rfl rfl ?_
  refine AQ.move (.plain rfl) rfl rfl ?_
  refine AQ.split (t := 12) rfl (fun h2 => ?_) (fun h2 => ?_)
  · refine AQ.move (.on rfl rfl rfl) rfl rfl ?_
    refine AQ.leq (.on rfl rfl rfl) rfl rfl rfl ?_
    refine AQ.pick_t (.plain rfl) rfl rfl rfl ?_
    refine AQ.move (.plain rfl) rfl rfl ?_
    refine AQ.split (t := 16) rfl (fun h3 => ?_) (fun h3 => ?_)
    · refine AQ.move (.on rfl rfl rfl) rfl rfl ?_
      refine AQ.pick_t (.plain rfl) rfl rfl rfl ?_
      refine AQ.move (.plain rfl) rfl rfl ?_
      refine AQ.split (t := 19) rfl (fun h4 => ?_) (fun h4 => ?_)
      · refine AQ.move (.on rfl rfl rfl) rfl rfl ?_
        refine AQ.lenz (.on rfl rfl rfl) (.sl rfl) rfl Tryz.underlying38 (by first | (simp only [List.length_map]; rfl) | rfl) ?_
        refine AQ.loadvA (.on rfl rfl rfl) rfl 0 rfl rfl ag37 rfl rfl ?_
        refine AQ.move (.on rfl rfl rfl) rfl rfl ?_
        refine AQ.callf (.on rfl rfl rfl) rfl rfl en153 (ref03Objects _ _ _) ?_
        refine AQ.leq (.on rfl rfl rfl) rfl rfl rfl ?_
        refine AQ.pick_t (.plain rfl) rfl rfl rfl ?_
        refine AQ.assign (.plain rfl) rfl rfl ?_
        refine AQ.nil ?_
        refine AQ.then_n ?_
        refine AQ.ret ?_
        refine AQ.dropN 1 ?_
        refine AQ.eqH (H' := H) rfl ?_
        exact AQ.done1 (Imm.le_refl _) Tryz.results80 rfl ⟨(by unfold sizedMay; first | exact B_f (by omega) | exact B_f (fun hh => absurd hh.2.2.1 (by assumption)) | (rw [if_pos ⟨y0, by omega⟩, objR_objN y0 (by omega) (by omega)]; exact B_c ⟨fun h => ⟨by omega, by omega, by assumption, h⟩, fun h => h.2.2.2⟩)), rfl⟩
      · refine AQ.off rfl rfl rfl rfl ?_
        refine AQ.off rfl rfl rfl rfl ?_
        refine AQ.off rfl rfl rfl rfl ?_
        refine AQ.off rfl rfl rfl rfl ?_
        refine AQ.off rfl rfl rfl rfl ?_
        refine AQ.off rfl rfl rfl rfl ?_
        refine AQ.pick_f (.plain rfl) rfl rfl rfl ?_
        refine AQ.assign (.plain rfl) rfl rfl ?_
        refine AQ.nil ?_
        refine AQ.then_n ?_
        refine AQ.ret ?_
        refine AQ.dropN 1 ?_
        refine AQ.eqH (H' := H) rfl ?_
        exact AQ.done1 (Imm.le_refl _) Tryz.results80 rfl ⟨(by unfold sizedMay; first | exact B_f (by omega) | exact B_f (fun hh => absurd hh.2.2.1 (by assumption)) | (rw [if_pos ⟨y0, by omega⟩, objR_objN y0 (by omega) (by omega)]; exact B_c ⟨fun h => ⟨by omega, by omega, by assumption, h⟩, fun h => h.2.2.2⟩)), rfl⟩
    · refine AQ.off rfl rfl rfl rfl ?_
      refine AQ.pick_f (.plain rfl) rfl rfl rfl ?_
      refine AQ.move (.plain rfl) rfl rfl ?_
      refine AQ.off rfl rfl rfl rfl ?_
      refine AQ.off rfl rfl rfl rfl ?_
      refine AQ.off rfl rfl rfl rfl ?_
      refine AQ.off rfl rfl rfl rfl ?_
      refine AQ.off rfl rfl rfl rfl ?_
      refine AQ.off rfl rfl rfl rfl ?_
      refine AQ.pick_f (.plain rfl) rfl rfl rfl ?_
      refine AQ.assign (.plain rfl) rfl rfl ?_
      refine AQ.nil ?_
      refine AQ.then_n ?_
      refine AQ.ret ?_
      refine AQ.dropN 1 ?_
      refine AQ.eqH (H' := H) rfl ?_
      exact AQ.done1 (Imm.le_refl _) Tryz.results80 rfl ⟨(by unfold sizedMay; first | exact B_f (by omega) | exact B_f (fun hh => absurd hh.2.2.1 (by assumption)) | (rw [if_pos ⟨y0, by omega⟩, objR_objN y0 (by omega) (by omega)]; exact B_c ⟨fun h => ⟨by omega, by omega, by assumption, h⟩, fun h => h.2.2.2⟩)), rfl⟩
  · refine AQ.off rfl rfl rfl rfl ?_
    refine AQ.off rfl rfl rfl rfl ?_
    refine AQ.pick_f (.plain rfl) rfl rfl rfl ?_
    refine AQ.move (.plain rfl) rfl rfl ?_
    refine AQ.off rfl rfl rfl rfl ?_
    refine AQ.pick_f (.plain rfl) rfl rfl rfl ?_
    refine AQ.move (.plain rfl) rfl rfl ?_
    refine AQ.off rfl rfl rfl rfl ?_
    refine AQ.off rfl rfl rfl rfl ?_
    refine AQ.off rfl rfl rfl rfl ?_
    refine AQ.off rfl rfl rfl rfl ?_
    refine AQ.off rfl rfl rfl rfl ?_
    refine AQ.off rfl rfl rfl rfl ?_
    refine AQ.pick_f (.plain rfl) rfl rfl rfl ?_
    refine AQ.assign (.plain rfl) rfl rfl ?_
    refine AQ.nil ?_
    refine AQ.then_n ?_
    refine AQ.ret ?_
    refine AQ.dropN 1 ?_
    refine AQ.eqH (H' := H) rfl ?_
    exact AQ.done1 (Imm.le_refl _) Tryz.results80 rfl ⟨(by unfold sizedMay; first | exact B_f (by omega) | exact B_f (fun hh => absurd hh.2.2.1 (by assumption)) | (rw [if_pos ⟨y0, by omega⟩, objR_objN y0 (by omega) (by omega)]; exact B_c ⟨fun h => ⟨by omega, by omega, by assumption, h⟩, fun h => h.2.2.2⟩)), rfl⟩
end Go.Fx
set_option linter.unusedVariables false
set_option linter.unusedSimpArgs false
set_option maxRecDepth 100000
namespace Go.Fx
open Go Go.Proofs

theorem ref01Num (w n : Int) (H : List HA)  : AC Tryz.prog 82 [I w, I n] (H) (fun r H' => ∃ v, r = .val v ∧ H' = .osl v 5 1 (byteRows (numB w n)) :: H) := by
  refine AC.enter Tryz.func82 rfl Tryz.ntmps82 rfl (fun I0 => ?_)
  have hw := wide_range w
  have hp := pow_range (k := (8 * wide w).toNat) (by omega)
  have h256 : (256 : Int) ^ (wide w).toNat = 2 ^ (8 * wide w).toNat := (by rw [← pow_two_256]; congr 1; omega)
  have hC : min (max n 0) (256 ^ (wide w).toNat - 1) = numClamp w n := (by rw [h256]; rfl)
  have hC0 : 0 ≤ numClamp w n ∧ numClamp w n ≤ 72057594037927936 := (by unfold numClamp; omega)
  refine AQ.seq ?_
  refine AQ.region ?_
  refine AQ.assign (.plain rfl) rfl rfl ?_
  refine AQ.nil ?_
  refine AQ.then_n ?_
  refine AQ.seq ?_
  refine AQ.region ?_
  refine AQ.move (.plain rfl) rfl rfl ?_
  refine AQ.callf (.plain rfl) rfl rfl en154 (ref01wide _ _) ?_
  refine AQ.assign (.plain rfl) rfl rfl ?_
  refine AQ.nil ?_
  refine AQ.then_n ?_
  refine AQ.seq ?_
  refine AQ.region ?_
  refine AQ.move (.plain rfl) rfl rfl ?_
  refine AQ.max2 (.plain rfl) rfl rfl rfl ?_
  refine AQ.move (.plain rfl) rfl rfl ?_
  refine AQ.callf (.plain rfl) rfl rfl en155 (ref01most _ _ (by omega) (by omega)) ?_
  refine AQ.min2 (.plain rfl) rfl rfl rfl ?_
  rw [hC]
  refine AQ.assign (.plain rfl) rfl rfl ?_
  refine AQ.nil ?_
  refine AQ.then_n ?_
  refine AQ.seq ?_
  refine AQ.region ?_
  refine AQ.move (.plain rfl) rfl rfl ?_
  refine AQ.makeSlice (.plain rfl) rfl rfl rfl Tryz.underlying28 el5 zo5 rfl rfl (by omega) (by omega) (by omega) (fun v1 => ?_)
  rw [rep_bytes]
  refine AQ.assign (.plain rfl) rfl rfl ?_
  refine AQ.nil ?_
  refine AQ.then_n ?_
  refine AQ.seq ?_
  refine AQ.seq ?_
  refine AQ.region ?_
  refine AQ.move (.plain rfl) rfl rfl ?_
  refine AQ.sub (.plain rfl) rfl rfl rfl (i64_id (by omega) (by omega)) ?_
  refine AQ.assign (.plain rfl) rfl rfl ?_
  refine AQ.nil ?_
  refine AQ.then_n ?_
  refine AQ.block ?_
  refine AQ.eqv (t := 1) (u := .int .i64 (numClamp w n / 256 ^ 0)) rfl (by rw [Int.pow_zero, Int.ediv_one]) ?_
  refine AQ.eqv (t := 7) (u := .int .i64 (wide w - 1 - ((0 : Nat) : Int))) rfl (by simp) ?_
  refine AQ.loop (σ := Nat) (fun s => [(1, I (numClamp w n / 256 ^ s)), (6, .val v1), (7, I (wide w - 1 - (s : Int)))]) (fun s => .osl v1 5 1 (byteRows (numSt (wide w).toNat (numClamp w n) s)) :: H) (fun s => s ≤ (wide w).toNat) (fun s => (wide w).toNat - s) 0 (by simp) ⟨rfl, rfl, rfl, trivial⟩ (by rw [numSt_zero]) (fun s hs => ?_)
  refine AQ.seq ?_
  refine AQ.seq ?_
  refine AQ.region ?_
  refine AQ.move (.plain rfl) rfl rfl ?_
  refine AQ.geq (.plain rfl) rfl rfl rfl ?_
  refine AQ.nil ?_
  refine AQ.then_n ?_
  refine AQ.cond_d rfl (fun h2 => ?_) (fun h2 => ?_)
  · refine AQ.skip ?_
    refine AQ.then_n ?_
    refine AQ.seq ?_
    refine AQ.block ?_
    refine AQ.seq ?_
    refine AQ.region ?_
    have hd := div_facts (a := numClamp w n) (b := 256 ^ s) (m := 72057594037927936) hC0.1 hC0.2 (Int.pow_pos (by decide))
    refine AQ.move (.plain rfl) rfl rfl ?_
    refine AQ.move (.plain rfl) rfl rfl ?_
    refine AQ.move (.plain rfl) rfl rfl ?_
    refine AQ.rem (.plain rfl) rfl rfl rfl (by omega) (tmod_pos (by omega)) ?_
    refine AQ.conv (.plain rfl) rfl rfl Tryz.underlying3 Tryz.underlying5 (b8_wrap _) ?_
    obtain ⟨x, hx⟩ := lgetz (l := (numSt (wide w).toNat (numClamp w n) s)) (z := (wide w - 1 - (s : Int))) (by omega) (by rw [numSt_len]; omega)
    refine AQ.indexo (.plain rfl) rfl 0 rfl rfl rfl Tryz.underlying28 ag5 (by omega) (by simp only [List.length_map]; rw [numSt_len]; omega) ?_
    refine AQ.storeo1 (.plain rfl) rfl 0 rfl _ 0 rfl (byteRows_getz hx) rfl rfl (.val rfl) ag5 ?_
    try simp only [List.set_cons_zero, List.set_cons_succ, intRows_set, byteRows_set]
    refine AQ.nil ?_
    refine AQ.then_n ?_
    refine AQ.region ?_
    refine AQ.move (.plain rfl) rfl rfl ?_
    refine AQ.quo (.plain rfl) rfl rfl rfl (by omega) (tdiv_pos (by omega) (by omega) (by omega)) ?_
    rw [div_pow_step]
    refine AQ.assign (.plain rfl) rfl rfl ?_
    refine AQ.nil ?_
    refine AQ.block_n ?_
    refine AQ.then_n ?_
    refine AQ.region ?_
    refine AQ.move (.plain rfl) rfl rfl ?_
    refine AQ.sub (.plain rfl) rfl rfl rfl (i64_id (by omega) (by omega)) ?_
    refine AQ.assign (.plain rfl) rfl rfl ?_
    refine AQ.nil ?_
    exact AQ.again (Imm.le_refl _) (s + 1) (by omega) (by omega) ⟨rfl, rfl, by rw [show wide w - 1 - ((s + 1 : Nat) : Int) = wide w - 1 - (s : Int) - 1 by omega]; rfl, trivial⟩ (by rw [show (wide w - 1 - (s : Int)).toNat = (wide w).toNat - 1 - s by omega, numSt_step (by omega)])
  · refine AQ.exit ?_
    refine AQ.then_e ?_
    refine AQ.then_e ?_
    refine AQ.block_hit ?_
    refine AQ.then_n ?_
    refine AQ.seq ?_
    refine AQ.region ?_
    refine AQ.move (.plain rfl) rfl rfl ?_
    refine AQ.assign (.plain rfl) rfl rfl ?_
    refine AQ.nil ?_
    refine AQ.then_n ?_
    refine AQ.ret ?_
    exact AQ.done1 (Imm.le_refl _) Tryz.results82 rfl ⟨_, rfl, by rw [show s = (wide w).toNat by omega, numSt_numB]⟩
theorem ref01Blob (x : List UInt8) (H : List HA) (y0 : x.length ≤ 1099511627776) : AC Tryz.prog 83 [bytes x] (H) (fun r H' => ∃ v, r = .val v ∧ H' = .osl v 5 1 (byteRows (blobB x)) :: H) := by
  refine AC.enter Tryz.func83 rfl Tryz.ntmps83 rfl (fun I0 => ?_)
  refine AQ.seq ?_
  refine AQ.region ?_
  refine AQ.assign (.plain rfl) rfl rfl ?_
  refine AQ.nil ?_
  refine AQ.then_n ?_
  refine AQ.seq ?_
  refine AQ.seq ?_
  refine AQ.region ?_
  refine AQ.move (.plain rfl) rfl rfl ?_
  refine AQ.lenz (.plain rfl) (.sl rfl) rfl Tryz.underlying28 (by first | (simp only [List.length_map]; rfl) | rfl) ?_
  refine AQ.gtr (.plain rfl) rfl rfl rfl ?_
  refine AQ.nil ?_
  refine AQ.then_n ?_
  refine AQ.cond_d rfl (fun h1 => ?_) (fun h1 => ?_)
  · refine AQ.region ?_
    refine AQ.move (.plain rfl) rfl rfl ?_
    refine AQ.cutTo (.plain rfl) rfl rfl rfl Tryz.underlying28 ag5 (by omega) (by simp only [List.length_map]; omega) ?_
    rw [show (byteRows x).take (65535 : Int).toNat = byteRows (x.take 65535) by rw [byteRows, byteRows, List.map_take]; rfl]
    refine AQ.assign (.plain rfl) rfl rfl ?_
    refine AQ.nil ?_
    refine AQ.then_n ?_
    refine AQ.seq ?_
    refine AQ.region ?_
    refine AQ.move (.plain rfl) rfl rfl ?_
    refine AQ.lenz (.plain rfl) (.sl rfl) rfl Tryz.underlying28 (by first | (simp only [List.length_map]; rfl) | rfl) ?_
    refine AQ.callo (.plain rfl) rfl rfl en82 (ref01Num _ _ _) (fun v2 => ?_)
    refine AQ.assign (.plain rfl) rfl rfl ?_
    refine AQ.nil ?_
    refine AQ.then_n ?_
    refine AQ.seq ?_
    refine AQ.region ?_
    refine AQ.move (.plain rfl) rfl rfl ?_
    refine AQ.move (.plain rfl) rfl rfl ?_
    refine AQ.append (.plain rfl) rfl 0 rfl (.sl rfl) rfl Tryz.underlying28 el5 rfl rfl (by simp only [List.length_map, numB_len1, w2, List.length_take]; omega) (fun v3 => ?_)
    try simp only [List.set_cons_zero, List.set_cons_succ]
    refine AQ.assign (.plain rfl) rfl rfl ?_
    refine AQ.nil ?_
    refine AQ.then_n ?_
    refine AQ.ret ?_
    exact AQ.done1 (Imm.le_refl _) Tryz.results83 rfl ⟨_, rfl, by unfold blobB; simp [byteRows]⟩
  · refine AQ.skip ?_
    refine AQ.then_n ?_
    refine AQ.seq ?_
    refine AQ.region ?_
    refine AQ.move (.plain rfl) rfl rfl ?_
    refine AQ.lenz (.plain rfl) (.sl rfl) rfl Tryz.underlying28 (by first | (simp only [List.length_map]; rfl) | rfl) ?_
    refine AQ.callo (.plain rfl) rfl rfl en82 (ref01Num _ _ _) (fun v4 => ?_)
    refine AQ.assign (.plain rfl) rfl rfl ?_
    refine AQ.nil ?_
    refine AQ.then_n ?_
    refine AQ.seq ?_
    refine AQ.region ?_
    refine AQ.move (.plain rfl) rfl rfl ?_
    refine AQ.move (.plain rfl) rfl rfl ?_
    refine AQ.append (.plain rfl) rfl 0 rfl (.sl rfl) rfl Tryz.underlying28 el5 rfl rfl (by simp only [List.length_map, numB_len1, w2, List.length_take]; omega) (fun v5 => ?_)
    try simp only [List.set_cons_zero, List.set_cons_succ]
    refine AQ.assign (.plain rfl) rfl rfl ?_
    refine AQ.nil ?_
    refine AQ.then_n ?_
    refine AQ.ret ?_
    exact AQ.done1 (Imm.le_refl _) Tryz.results83 rfl ⟨_, rfl, by unfold blobB; rw [List.take_of_length_le (by omega)]; simp [byteRows]⟩
theorem ref05Pack (m : List Int) (H : List HA)  : AC Tryz.prog 84 [ints m] (H) (fun r H' => ∃ v, r = .val v ∧ H' = .osl v 5 1 (byteRows (mapB m)) :: H) := by
  refine AC.enter Tryz.func84 rfl Tryz.ntmps84 rfl (fun I0 => ?_)
  have hr := rowL_len m
  refine AQ.seq ?_
  refine AQ.region ?_
  refine AQ.assign (.plain rfl) rfl rfl ?_
  refine AQ.nil ?_
  refine AQ.then_n ?_
  refine AQ.seq ?_
  refine AQ.region ?_
  refine AQ.move (.plain rfl) rfl rfl ?_
  refine AQ.callo (.plain rfl) rfl rfl en156 (ref05Row _ _) (fun v1 => ?_)
  refine AQ.assign (.plain rfl) rfl rfl ?_
  refine AQ.nil ?_
  refine AQ.then_n ?_
  refine AQ.seq ?_
  refine AQ.region ?_
  refine AQ.freeze 0 rfl (fun J2 hJ2 hp2 => ?_)
  refine AQ.as (t := 3) rfl hp2 ?_
  refine AQ.move (.plain rfl) rfl rfl ?_
  refine AQ.lenz (.plain rfl) (.sl rfl) rfl Tryz.underlying38 (by first | (simp only [List.length_map]; rfl) | rfl) ?_
  refine AQ.quo (.plain rfl) rfl rfl rfl (by omega) (tdiv_pos (by omega) (by omega) (by omega)) ?_
  refine AQ.conv (.plain rfl) rfl rfl Tryz.underlying3 Tryz.underlying5 (b8_wrap _) ?_
  refine AQ.move (.plain rfl) rfl rfl ?_
  refine AQ.lenz (.plain rfl) (.sl rfl) rfl Tryz.underlying38 (by first | (simp only [List.length_map]; rfl) | rfl) ?_
  refine AQ.rem (.plain rfl) rfl rfl rfl (by omega) (tmod_pos (by omega)) ?_
  refine AQ.conv (.plain rfl) rfl rfl Tryz.underlying3 Tryz.underlying5 (b8_wrap _) ?_
  refine AQ.buildSlice (rows := [[_], [_]]) (.plain rfl) rfl Tryz.underlying28 el5 zo5 rfl rfl rfl (.one rfl (.val rfl) rfl rfl (.one rfl (.val rfl) rfl rfl .nil)) rfl rfl (by simp) (fun u3 => ?_)
  refine AQ.assign (.plain rfl) rfl rfl ?_
  refine AQ.nil ?_
  refine AQ.then_n ?_
  refine AQ.seq ?_
  refine AQ.seq ?_
  refine AQ.region ?_
  refine AQ.assign (.plain rfl) rfl rfl ?_
  refine AQ.nil ?_
  refine AQ.then_n ?_
  refine AQ.block ?_
  refine AQ.loop (σ := Nat × Value) (fun s => [(3, ints (rowL m)), (4, .val s.2), (5, I (4 * (s.1 : Int)))]) (fun s => .osl s.2 5 1 (byteRows (quads (rowL m) s.1)) :: H) (fun s => s.1 ≤ ((rowL m).length + 3) / 4) (fun s => ((rowL m).length + 3) / 4 - s.1) (0, u3) (by simp) ⟨rfl, rfl, rfl, trivial⟩ (by simp only [b8_mod]; rfl) (fun s hs => ?_)
  refine AQ.seq ?_
  refine AQ.seq ?_
  refine AQ.region ?_
  refine AQ.move (.plain rfl) rfl rfl ?_
  refine AQ.move (.plain rfl) rfl rfl ?_
  refine AQ.lenz (.plain rfl) (.sl rfl) rfl Tryz.underlying38 (by first | (simp only [List.length_map]; rfl) | rfl) ?_
  refine AQ.lss (.plain rfl) rfl rfl rfl ?_
  refine AQ.nil ?_
  refine AQ.then_n ?_
  refine AQ.cond_d rfl (fun h4 => ?_) (fun h4 => ?_)
  · refine AQ.skip ?_
    refine AQ.then_n ?_
    refine AQ.seq ?_
    refine AQ.block ?_
    refine AQ.seq ?_
    refine AQ.region ?_
    have g0 := mget_le (rowL m) (4 * (s.1 : Int))
    have g1 := mget_le (rowL m) (4 * (s.1 : Int) + 1)
    have g2 := mget_le (rowL m) (4 * (s.1 : Int) + 2)
    have g3 := mget_le (rowL m) (4 * (s.1 : Int) + 3)
    refine AQ.move (.plain rfl) rfl rfl ?_
    refine AQ.move (.plain rfl) rfl rfl ?_
    refine AQ.callf (.plain rfl) rfl rfl en148 (ref05Get _ _ _) ?_
    refine AQ.move (.plain rfl) rfl rfl ?_
    refine AQ.move (.plain rfl) rfl rfl ?_
    refine AQ.add (.plain rfl) rfl rfl rfl (i64_id (by omega) (by omega)) ?_
    refine AQ.callf (.plain rfl) rfl rfl en148 (ref05Get _ _ _) ?_
    refine AQ.mul (.plain rfl) rfl rfl rfl (i64_id (by omega) (by omega)) ?_
    refine AQ.add (.plain rfl) rfl rfl rfl (i64_id (by omega) (by omega)) ?_
    refine AQ.move (.plain rfl) rfl rfl ?_
    refine AQ.move (.plain rfl) rfl rfl ?_
    refine AQ.add (.plain rfl) rfl rfl rfl (i64_id (by omega) (by omega)) ?_
    refine AQ.callf (.plain rfl) rfl rfl en148 (ref05Get _ _ _) ?_
    refine AQ.mul (.plain rfl) rfl rfl rfl (i64_id (by omega) (by omega)) ?_
    refine AQ.add (.plain rfl) rfl rfl rfl (i64_id (by omega) (by omega)) ?_
    refine AQ.move (.plain rfl) rfl rfl ?_
    refine AQ.move (.plain rfl) rfl rfl ?_
    refine AQ.add (.plain rfl) rfl rfl rfl (i64_id (by omega) (by omega)) ?_
    refine AQ.callf (.plain rfl) rfl rfl en148 (ref05Get _ _ _) ?_
    refine AQ.mul (.plain rfl) rfl rfl rfl (i64_id (by omega) (by omega)) ?_
    refine AQ.add (.plain rfl) rfl rfl rfl (i64_id (by omega) (by omega)) ?_
    refine AQ.assign (.plain rfl) rfl rfl ?_
    refine AQ.nil ?_
    refine AQ.then_n ?_
    refine AQ.region ?_
    refine AQ.move (.plain rfl) rfl rfl ?_
    refine AQ.move (.plain rfl) rfl rfl ?_
    refine AQ.conv (.plain rfl) rfl rfl Tryz.underlying3 Tryz.underlying5 (b8_wrap _) ?_
    refine AQ.buildSlice (rows := [[_]]) (.plain rfl) rfl Tryz.underlying28 el5 zo5 rfl rfl rfl (.one rfl (.val rfl) rfl rfl .nil) rfl rfl (by simp) (fun u5 => ?_)
    refine AQ.append (.plain rfl) rfl 1 rfl (.osl rfl 0 rfl) rfl Tryz.underlying28 el5 rfl rfl (by simp only [List.length_cons, List.length_nil, List.length_map, quads_len, List.length_append, List.length_range]; omega) (fun v6 => ?_)
    try simp only [List.set_cons_zero, List.set_cons_succ]
    refine AQ.assign (.plain rfl) rfl rfl ?_
    refine AQ.nil ?_
    refine AQ.block_n ?_
    refine AQ.then_n ?_
    refine AQ.region ?_
    refine AQ.move (.plain rfl) rfl rfl ?_
    refine AQ.add (.plain rfl) rfl rfl rfl (i64_id (by omega) (by omega)) ?_
    refine AQ.assign (.plain rfl) rfl rfl ?_
    refine AQ.nil ?_
    refine AQ.dropN 1 ?_
    refine AQ.eqH (H' := _ :: H) rfl ?_
    exact AQ.again (Imm.le_refl _) (s.1 + 1, _) (by simp only; omega) (by simp only; omega) ⟨rfl, rfl, by rw [show 4 * ((s.1 + 1 : Nat) : Int) = 4 * (s.1 : Int) + 4 by omega]; rfl, trivial⟩ (by simp only [← quads_step, List.map_append]; rfl)
  · refine AQ.exit ?_
    refine AQ.then_e ?_
    refine AQ.then_e ?_
    refine AQ.block_hit ?_
    refine AQ.then_n ?_
    refine AQ.seq ?_
    refine AQ.region ?_
    refine AQ.move (.plain rfl) rfl rfl ?_
    refine AQ.assign (.plain rfl) rfl rfl ?_
    refine AQ.nil ?_
    refine AQ.then_n ?_
    refine AQ.ret ?_
    exact AQ.done1 hJ2 Tryz.results84 rfl ⟨_, rfl, by rw [quads_mapB, show s.1 = ((rowL m).length + 3) / 4 by omega]⟩
end Go.Fx
set_option linter.unusedVariables false
set_option linter.unusedSimpArgs false
set_option maxRecDepth 100000
namespace Go.Fx
open Go Go.Proofs

theorem ref06May (h : Head) (H : List HA)  : AC Tryz.prog 23 [.agg h.cells] (H) (fun r' H' => r' = (B h.May) ∧ H' = H) := by
  refine AC.enter Tryz.func23 rfl Tryz.ntmps23 rfl (fun I0 => ?_)
  refine AQ.seq ?_
  refine AQ.region ?_
  refine AQ.boxA (.plain rfl) rfl rfl (fun b1 => ?_)
  refine AQ.assign (.plain rfl) rfl rfl ?_
  refine AQ.nil ?_
  refine AQ.then_n ?_
  refine AQ.seq ?_
  refine AQ.region ?_
  refine AQ.fieldv (.plain rfl) rfl rfl fo41_0 rfl ?_
  refine AQ.loadvA (.plain rfl) rfl 0 rfl rfl ag37 rfl rfl ?_
  refine AQ.callf (.plain rfl) rfl rfl en32 (ref03May _ _) ?_
  refine AQ.assign (.plain rfl) rfl rfl ?_
  refine AQ.nil ?_
  refine AQ.then_n ?_
  refine AQ.seq ?_
  refine AQ.seq ?_
  refine AQ.region ?_
  refine AQ.move (.plain rfl) rfl rfl ?_
  refine AQ.not_d (.plain rfl) rfl rfl ?_
  refine AQ.move (.plain rfl) rfl rfl ?_
  refine AQ.split (t := 12) rfl (fun h2 => ?_) (fun h2 => ?_)
  · refine AQ.off rfl rfl rfl rfl ?_
    refine AQ.off rfl rfl rfl rfl ?_
    refine AQ.off rfl rfl rfl rfl ?_
    refine AQ.off rfl rfl rfl rfl ?_
    refine AQ.off rfl rfl rfl rfl ?_
    refine AQ.off rfl rfl rfl rfl ?_
    refine AQ.off rfl rfl rfl rfl ?_
    refine AQ.off rfl rfl rfl rfl ?_
    refine AQ.pick_t (.plain rfl) rfl rfl rfl ?_
    refine AQ.move (.plain rfl) rfl rfl ?_
    refine AQ.off rfl rfl rfl rfl ?_
    refine AQ.off rfl rfl rfl rfl ?_
    refine AQ.off rfl rfl rfl rfl ?_
    refine AQ.off rfl rfl rfl rfl ?_
    refine AQ.pick_t (.plain rfl) rfl rfl rfl ?_
    refine AQ.move (.plain rfl) rfl rfl ?_
    refine AQ.off rfl rfl rfl rfl ?_
    refine AQ.off rfl rfl rfl rfl ?_
    refine AQ.off rfl rfl rfl rfl ?_
    refine AQ.pick_t (.plain rfl) rfl rfl rfl ?_
    refine AQ.move (.plain rfl) rfl rfl ?_
    refine AQ.off rfl rfl rfl rfl ?_
    refine AQ.off rfl rfl rfl rfl ?_
    refine AQ.off rfl rfl rfl rfl ?_
    refine AQ.pick_t (.plain rfl) rfl rfl rfl ?_
    refine AQ.move (.plain rfl) rfl rfl ?_
    refine AQ.off rfl rfl rfl rfl ?_
    refine AQ.off rfl rfl rfl rfl ?_
    refine AQ.off rfl rfl rfl rfl ?_
    refine AQ.pick_t (.plain rfl) rfl rfl rfl ?_
    refine AQ.move (.plain rfl) rfl rfl ?_
    refine AQ.off rfl rfl rfl rfl ?_
    refine AQ.off rfl rfl rfl rfl ?_
    refine AQ.off rfl rfl rfl rfl ?_
    refine AQ.pick_t (.plain rfl) rfl rfl rfl ?_
    refine AQ.nil ?_
    refine AQ.then_n ?_
    refine AQ.cond_t rfl ?_
    refine AQ.seq ?_
    refine AQ.region ?_
    refine AQ.assign (.plain rfl) rfl rfl ?_
    refine AQ.nil ?_
    refine AQ.then_n ?_
    refine AQ.ret ?_
    refine AQ.then_r ?_
    refine AQ.dropN 1 ?_
    refine AQ.eqH (H' := H) rfl ?_
    exact AQ.done1 (Imm.le_refl _) Tryz.results23 rfl ⟨(by first | exact B_f (fun hh => by obtain ⟨g1, g2, g3, g4, g5, g6, g7, g8⟩ := hh; first | omega | exact absurd g1 (by assumption) | exact absurd g2 (by assumption) | (rw [hs.2, drop_cons hx] at g8; obtain ⟨r1, r2, r3, r4⟩ := g8; first | omega | exact absurd r3 (by assumption))) | exact B_t ⟨hlm, Decidable.not_not.1 (by assumption), by omega, by omega, by omega, by omega, by omega, hs.2.2 (by rw [List.drop_of_length_le (by omega)]; trivial)⟩), rfl⟩
  · refine AQ.fieldv (.on rfl rfl rfl) rfl rfl fo41_0 rfl ?_
    refine AQ.loadvA (.on rfl rfl rfl) rfl 0 rfl rfl ag37 rfl rfl ?_
    refine AQ.fieldv (.on rfl rfl rfl) rfl rfl fo41_1 rfl ?_
    refine AQ.loadv1 (.on rfl rfl rfl) rfl 0 rfl rfl ag3 rfl ?_
    refine AQ.fieldv (.on rfl rfl rfl) rfl rfl fo41_2 rfl ?_
    refine AQ.loadv1 (.on rfl rfl rfl) rfl 0 rfl rfl ag38 rfl ?_
    refine AQ.callf (.on rfl rfl rfl) rfl rfl en80 (ref06sized h.layout h.size h.map _ (Decidable.not_not.1 (by assumption))) ?_
    refine AQ.not_d (.on rfl rfl rfl) rfl rfl ?_
    refine AQ.pick_f (.plain rfl) rfl rfl rfl ?_
    refine AQ.move (.plain rfl) rfl rfl ?_
    refine AQ.split (t := 22) rfl (fun h3 => ?_) (fun h3 => ?_)
    · refine AQ.off rfl rfl rfl rfl ?_
      refine AQ.off rfl rfl rfl rfl ?_
      refine AQ.off rfl rfl rfl rfl ?_
      refine AQ.off rfl rfl rfl rfl ?_
      refine AQ.pick_t (.plain rfl) rfl rfl rfl ?_
      refine AQ.move (.plain rfl) rfl rfl ?_
      refine AQ.off rfl rfl rfl rfl ?_
      refine AQ.off rfl rfl rfl rfl ?_
      refine AQ.off rfl rfl rfl rfl ?_
      refine AQ.pick_t (.plain rfl) rfl rfl rfl ?_
      refine AQ.move (.plain rfl) rfl rfl ?_
      refine AQ.off rfl rfl rfl rfl ?_
      refine AQ.off rfl rfl rfl rfl ?_
      refine AQ.off rfl rfl rfl rfl ?_
      refine AQ.pick_t (.plain rfl) rfl rfl rfl ?_
      refine AQ.move (.plain rfl) rfl rfl ?_
      refine AQ.off rfl rfl rfl rfl ?_
      refine AQ.off rfl rfl rfl rfl ?_
      refine AQ.off rfl rfl rfl rfl ?_
      refine AQ.pick_t (.plain rfl) rfl rfl rfl ?_
      refine AQ.move (.plain rfl) rfl rfl ?_
      refine AQ.off rfl rfl rfl rfl ?_
      refine AQ.off rfl rfl rfl rfl ?_
      refine AQ.off rfl rfl rfl rfl ?_
      refine AQ.pick_t (.plain rfl) rfl rfl rfl ?_
      refine AQ.nil ?_
      refine AQ.then_n ?_
      refine AQ.cond_t rfl ?_
      refine AQ.seq ?_
      refine AQ.region ?_
      refine AQ.assign (.plain rfl) rfl rfl ?_
      refine AQ.nil ?_
      refine AQ.then_n ?_
      refine AQ.ret ?_
      refine AQ.then_r ?_
      refine AQ.dropN 1 ?_
      refine AQ.eqH (H' := H) rfl ?_
      exact AQ.done1 (Imm.le_refl _) Tryz.results23 rfl ⟨(by first | exact B_f (fun hh => by obtain ⟨g1, g2, g3, g4, g5, g6, g7, g8⟩ := hh; first | omega | exact absurd g1 (by assumption) | exact absurd g2 (by assumption) | (rw [hs.2, drop_cons hx] at g8; obtain ⟨r1, r2, r3, r4⟩ := g8; first | omega | exact absurd r3 (by assumption))) | exact B_t ⟨hlm, Decidable.not_not.1 (by assumption), by omega, by omega, by omega, by omega, by omega, hs.2.2 (by rw [List.drop_of_length_le (by omega)]; trivial)⟩), rfl⟩
    · refine AQ.fieldv (.on rfl rfl rfl) rfl rfl fo41_3 rfl ?_
      refine AQ.loadv1 (.on rfl rfl rfl) rfl 0 rfl rfl ag39 rfl ?_
      refine AQ.slB (t := 24) rfl (fun z0 => ?_)
      simp only [List.length_map] at z0
      refine AQ.lenz (.on rfl rfl rfl) (.sl rfl) rfl Tryz.underlying39 (by first | (simp only [List.length_map]; rfl) | rfl) ?_
      refine AQ.gtr (.on rfl rfl rfl) rfl rfl rfl ?_
      refine AQ.pick_f (.plain rfl) rfl rfl rfl ?_
      refine AQ.move (.plain rfl) rfl rfl ?_
      refine AQ.split (t := 28) rfl (fun h4 => ?_) (fun h4 => ?_)
      · refine AQ.off rfl rfl rfl rfl ?_
        refine AQ.off rfl rfl rfl rfl ?_
        refine AQ.off rfl rfl rfl rfl ?_
        refine AQ.pick_t (.plain rfl) rfl rfl rfl ?_
        refine AQ.move (.plain rfl) rfl rfl ?_
        refine AQ.off rfl rfl rfl rfl ?_
        refine AQ.off rfl rfl rfl rfl ?_
        refine AQ.off rfl rfl rfl rfl ?_
        refine AQ.pick_t (.plain rfl) rfl rfl rfl ?_
        refine AQ.move (.plain rfl) rfl rfl ?_
        refine AQ.off rfl rfl rfl rfl ?_
        refine AQ.off rfl rfl rfl rfl ?_
        refine AQ.off rfl rfl rfl rfl ?_
        refine AQ.pick_t (.plain rfl) rfl rfl rfl ?_
        refine AQ.move (.plain rfl) rfl rfl ?_
        refine AQ.off rfl rfl rfl rfl ?_
        refine AQ.off rfl rfl rfl rfl ?_
        refine AQ.off rfl rfl rfl rfl ?_
        refine AQ.pick_t (.plain rfl) rfl rfl rfl ?_
        refine AQ.nil ?_
        refine AQ.then_n ?_
        refine AQ.cond_t rfl ?_
        refine AQ.seq ?_
        refine AQ.region ?_
        refine AQ.assign (.plain rfl) rfl rfl ?_
        refine AQ.nil ?_
        refine AQ.then_n ?_
        refine AQ.ret ?_
        refine AQ.then_r ?_
        refine AQ.dropN 1 ?_
        refine AQ.eqH (H' := H) rfl ?_
        exact AQ.done1 (Imm.le_refl _) Tryz.results23 rfl ⟨(by first | exact B_f (fun hh => by obtain ⟨g1, g2, g3, g4, g5, g6, g7, g8⟩ := hh; first | omega | exact absurd g1 (by assumption) | exact absurd g2 (by assumption) | (rw [hs.2, drop_cons hx] at g8; obtain ⟨r1, r2, r3, r4⟩ := g8; first | omega | exact absurd r3 (by assumption))) | exact B_t ⟨hlm, Decidable.not_not.1 (by assumption), by omega, by omega, by omega, by omega, by omega, hs.2.2 (by rw [List.drop_of_length_le (by omega)]; trivial)⟩), rfl⟩
      · refine AQ.fieldv (.on rfl rfl rfl) rfl rfl fo41_4 rfl ?_
        refine AQ.loadv1 (.on rfl rfl rfl) rfl 0 rfl rfl ag3 rfl ?_
        refine AQ.lss (.on rfl rfl rfl) rfl rfl rfl ?_
        refine AQ.pick_f (.plain rfl) rfl rfl rfl ?_
        refine AQ.move (.plain rfl) rfl rfl ?_
        refine AQ.split (t := 33) rfl (fun h5 => ?_) (fun h5 => ?_)
        · refine AQ.off rfl rfl rfl rfl ?_
          refine AQ.off rfl rfl rfl rfl ?_
          refine AQ.off rfl rfl rfl rfl ?_
          refine AQ.pick_t (.plain rfl) rfl rfl rfl ?_
          refine AQ.move (.plain rfl) rfl rfl ?_
          refine AQ.off rfl rfl rfl rfl ?_
          refine AQ.off rfl rfl rfl rfl ?_
          refine AQ.off rfl rfl rfl rfl ?_
          refine AQ.pick_t (.plain rfl) rfl rfl rfl ?_
          refine AQ.move (.plain rfl) rfl rfl ?_
          refine AQ.off rfl rfl rfl rfl ?_
          refine AQ.off rfl rfl rfl rfl ?_
          refine AQ.off rfl rfl rfl rfl ?_
          refine AQ.pick_t (.plain rfl) rfl rfl rfl ?_
          refine AQ.nil ?_
          refine AQ.then_n ?_
          refine AQ.cond_t rfl ?_
          refine AQ.seq ?_
          refine AQ.region ?_
          refine AQ.assign (.plain rfl) rfl rfl ?_
          refine AQ.nil ?_
          refine AQ.then_n ?_
          refine AQ.ret ?_
          refine AQ.then_r ?_
          refine AQ.dropN 1 ?_
          refine AQ.eqH (H' := H) rfl ?_
          exact AQ.done1 (Imm.le_refl _) Tryz.results23 rfl ⟨(by first | exact B_f (fun hh => by obtain ⟨g1, g2, g3, g4, g5, g6, g7, g8⟩ := hh; first | omega | exact absurd g1 (by assumption) | exact absurd g2 (by assumption) | (rw [hs.2, drop_cons hx] at g8; obtain ⟨r1, r2, r3, r4⟩ := g8; first | omega | exact absurd r3 (by assumption))) | exact B_t ⟨hlm, Decidable.not_not.1 (by assumption), by omega, by omega, by omega, by omega, by omega, hs.2.2 (by rw [List.drop_of_length_le (by omega)]; trivial)⟩), rfl⟩
        · refine AQ.fieldv (.on rfl rfl rfl) rfl rfl fo41_4 rfl ?_
          refine AQ.loadv1 (.on rfl rfl rfl) rfl 0 rfl rfl ag3 rfl ?_
          refine AQ.gtr (.on rfl rfl rfl) rfl rfl rfl ?_
          refine AQ.pick_f (.plain rfl) rfl rfl rfl ?_
          refine AQ.move (.plain rfl) rfl rfl ?_
          refine AQ.split (t := 38) rfl (fun h6 => ?_) (fun h6 => ?_)
          · refine AQ.off rfl rfl rfl rfl ?_
            refine AQ.off rfl rfl rfl rfl ?_
            refine AQ.off rfl rfl rfl rfl ?_
            refine AQ.pick_t (.plain rfl) rfl rfl rfl ?_
            refine AQ.move (.plain rfl) rfl rfl ?_
            refine AQ.off rfl rfl rfl rfl ?_
            refine AQ.off rfl rfl rfl rfl ?_
            refine AQ.off rfl rfl rfl rfl ?_
            refine AQ.pick_t (.plain rfl) rfl rfl rfl ?_
            refine AQ.nil ?_
            refine AQ.then_n ?_
            refine AQ.cond_t rfl ?_
            refine AQ.seq ?_
            refine AQ.region ?_
            refine AQ.assign (.plain rfl) rfl rfl ?_
            refine AQ.nil ?_
            refine AQ.then_n ?_
            refine AQ.ret ?_
            refine AQ.then_r ?_
            refine AQ.dropN 1 ?_
            refine AQ.eqH (H' := H) rfl ?_
            exact AQ.done1 (Imm.le_refl _) Tryz.results23 rfl ⟨(by first | exact B_f (fun hh => by obtain ⟨g1, g2, g3, g4, g5, g6, g7, g8⟩ := hh; first | omega | exact absurd g1 (by assumption) | exact absurd g2 (by assumption) | (rw [hs.2, drop_cons hx] at g8; obtain ⟨r1, r2, r3, r4⟩ := g8; first | omega | exact absurd r3 (by assumption))) | exact B_t ⟨hlm, Decidable.not_not.1 (by assumption), by omega, by omega, by omega, by omega, by omega, hs.2.2 (by rw [List.drop_of_length_le (by omega)]; trivial)⟩), rfl⟩
          · refine AQ.fieldv (.on rfl rfl rfl) rfl rfl fo41_5 rfl ?_
            refine AQ.loadv1 (.on rfl rfl rfl) rfl 0 rfl rfl ag3 rfl ?_
            refine AQ.lss (.on rfl rfl rfl) rfl rfl rfl ?_
            refine AQ.pick_f (.plain rfl) rfl rfl rfl ?_
            refine AQ.move (.plain rfl) rfl rfl ?_
            refine AQ.split (t := 43) rfl (fun h7 => ?_) (fun h7 => ?_)
            · refine AQ.off rfl rfl rfl rfl ?_
              refine AQ.off rfl rfl rfl rfl ?_
              refine AQ.off rfl rfl rfl rfl ?_
              refine AQ.pick_t (.plain rfl) rfl rfl rfl ?_
              refine AQ.nil ?_
              refine AQ.then_n ?_
              refine AQ.cond_t rfl ?_
              refine AQ.seq ?_
              refine AQ.region ?_
              refine AQ.assign (.plain rfl) rfl rfl ?_
              refine AQ.nil ?_
              refine AQ.then_n ?_
              refine AQ.ret ?_
              refine AQ.then_r ?_
              refine AQ.dropN 1 ?_
              refine AQ.eqH (H' := H) rfl ?_
              exact AQ.done1 (Imm.le_refl _) Tryz.results23 rfl ⟨(by first | exact B_f (fun hh => by obtain ⟨g1, g2, g3, g4, g5, g6, g7, g8⟩ := hh; first | omega | exact absurd g1 (by assumption) | exact absurd g2 (by assumption) | (rw [hs.2, drop_cons hx] at g8; obtain ⟨r1, r2, r3, r4⟩ := g8; first | omega | exact absurd r3 (by assumption))) | exact B_t ⟨hlm, Decidable.not_not.1 (by assumption), by omega, by omega, by omega, by omega, by omega, hs.2.2 (by rw [List.drop_of_length_le (by omega)]; trivial)⟩), rfl⟩
            · refine AQ.fieldv (.on rfl rfl rfl) rfl rfl fo41_5 rfl ?_
              refine AQ.loadv1 (.on rfl rfl rfl) rfl 0 rfl rfl ag3 rfl ?_
              refine AQ.gtr (.on rfl rfl rfl) rfl rfl rfl ?_
              refine AQ.pick_f (.plain rfl) rfl rfl rfl ?_
              refine AQ.nil ?_
              refine AQ.then_n ?_
              refine AQ.cond_d rfl (fun h8 => ?_) (fun h8 => ?_)
              · refine AQ.seq ?_
                refine AQ.region ?_
                refine AQ.assign (.plain rfl) rfl rfl ?_
                refine AQ.nil ?_
                refine AQ.then_n ?_
                refine AQ.ret ?_
                refine AQ.then_r ?_
                refine AQ.dropN 1 ?_
                refine AQ.eqH (H' := H) rfl ?_
                exact AQ.done1 (Imm.le_refl _) Tryz.results23 rfl ⟨(by first | exact B_f (fun hh => by obtain ⟨g1, g2, g3, g4, g5, g6, g7, g8⟩ := hh; first | omega | exact absurd g1 (by assumption) | exact absurd g2 (by assumption) | (rw [hs.2, drop_cons hx] at g8; obtain ⟨r1, r2, r3, r4⟩ := g8; first | omega | exact absurd r3 (by assumption))) | exact B_t ⟨hlm, Decidable.not_not.1 (by assumption), by omega, by omega, by omega, by omega, by omega, hs.2.2 (by rw [List.drop_of_length_le (by omega)]; trivial)⟩), rfl⟩
              · refine AQ.skip ?_
                refine AQ.then_n ?_
                refine AQ.seq ?_
                refine AQ.region ?_
                refine AQ.assign (.plain rfl) rfl rfl ?_
                refine AQ.nil ?_
                refine AQ.then_n ?_
                refine AQ.seq ?_
                refine AQ.seq ?_
                refine AQ.region ?_
                refine AQ.assign (.plain rfl) rfl rfl ?_
                refine AQ.nil ?_
                refine AQ.then_n ?_
                refine AQ.block ?_
                have hlm : h.layout.May := Decidable.not_not.1 (by assumption)
                refine AQ.loop (σ := Nat × Int) (fun s => [(1, .val (.pointer (some ⟨b1, 0, none⟩))), (4, I s.2), (5, I (s.1 : Int))]) (fun s => .box b1 41 h.cells :: H) (fun s => s.1 ≤ h.snaps.length ∧ (snapsMay h.layout h.last 0 h.snaps ↔ snapsMay h.layout h.last s.2 (h.snaps.drop s.1))) (fun s => h.snaps.length - s.1) (0, 0) ⟨by simp, by simp⟩ ⟨rfl, rfl, rfl, trivial⟩ rfl (fun s hs => ?_)
                refine AQ.seq ?_
                refine AQ.seq ?_
                refine AQ.region ?_
                refine AQ.move (.plain rfl) rfl rfl ?_
                refine AQ.fieldv (.plain rfl) rfl rfl fo41_3 rfl ?_
                refine AQ.loadv1 (.plain rfl) rfl 0 rfl rfl ag39 rfl ?_
                refine AQ.slB (t := 50) rfl (fun z1 => ?_)
                simp only [List.length_map] at z1
                refine AQ.lenz (.plain rfl) (.sl rfl) rfl Tryz.underlying39 (by first | (simp only [List.length_map]; rfl) | rfl) ?_
                refine AQ.lss (.plain rfl) rfl rfl rfl ?_
                refine AQ.nil ?_
                refine AQ.then_n ?_
                refine AQ.cond_d rfl (fun h9 => ?_) (fun h9 => ?_)
                · refine AQ.skip ?_
                  refine AQ.then_n ?_
                  refine AQ.seq ?_
                  refine AQ.block ?_
                  refine AQ.seq ?_
                  refine AQ.region ?_
                  refine AQ.fieldv (.plain rfl) rfl rfl fo41_3 rfl ?_
                  refine AQ.loadv1 (.plain rfl) rfl 0 rfl rfl ag39 rfl ?_
                  refine AQ.move (.plain rfl) rfl rfl ?_
                  obtain ⟨x, hx⟩ := lgetz (l := h.snaps) (z := (s.1 : Int)) (by omega) (by omega)
                  refine AQ.indexAddr (.plain rfl) rfl rfl rfl Tryz.underlying39 ag124 (by omega) (map_getz hx) ?_
                  refine AQ.loadA (.plain rfl) rfl rfl ag124 rfl rfl ?_
                  refine AQ.alloc (.plain rfl) zo124 rfl rfl (fun b10 => ?_)
                  refine AQ.storevA (.plain rfl) rfl 0 rfl rfl ag124 rfl rfl ?_
                  try simp only [List.set_cons_zero, List.set_cons_succ]
                  refine AQ.nil ?_
                  rw [Int.toNat_natCast] at hx
                  refine AQ.then_n ?_
                  refine AQ.seq ?_
                  refine AQ.seq ?_
                  refine AQ.region ?_
                  refine AQ.fieldv (.plain rfl) rfl rfl fo124_0 rfl ?_
                  refine AQ.loadv1 (.plain rfl) rfl 0 rfl rfl ag3 rfl ?_
                  refine AQ.move (.plain rfl) rfl rfl ?_
                  refine AQ.leq (.plain rfl) rfl rfl rfl ?_
                  refine AQ.move (.plain rfl) rfl rfl ?_
                  refine AQ.split (t := 64) rfl (fun h11 => ?_) (fun h11 => ?_)
                  · refine AQ.off rfl rfl rfl rfl ?_
                    refine AQ.off rfl rfl rfl rfl ?_
                    refine AQ.off rfl rfl rfl rfl ?_
                    refine AQ.off rfl rfl rfl rfl ?_
                    refine AQ.off rfl rfl rfl rfl ?_
                    refine AQ.pick_t (.plain rfl) rfl rfl rfl ?_
                    refine AQ.move (.plain rfl) rfl rfl ?_
                    refine AQ.off rfl rfl rfl rfl ?_
                    refine AQ.off rfl rfl rfl rfl ?_
                    refine AQ.off rfl rfl rfl rfl ?_
                    refine AQ.off rfl rfl rfl rfl ?_
                    refine AQ.off rfl rfl rfl rfl ?_
                    refine AQ.off rfl rfl rfl rfl ?_
                    refine AQ.off rfl rfl rfl rfl ?_
                    refine AQ.off rfl rfl rfl rfl ?_
                    refine AQ.pick_t (.plain rfl) rfl rfl rfl ?_
                    refine AQ.nil ?_
                    refine AQ.then_n ?_
                    refine AQ.cond_t rfl ?_
                    refine AQ.seq ?_
                    refine AQ.region ?_
                    refine AQ.assign (.plain rfl) rfl rfl ?_
                    refine AQ.nil ?_
                    refine AQ.then_n ?_
                    refine AQ.ret ?_
                    refine AQ.then_r ?_
                    refine AQ.block_r ?_
                    refine AQ.then_r ?_
                    refine AQ.then_r ?_
                    refine AQ.block_r ?_
                    refine AQ.then_r ?_
                    refine AQ.dropN 1 ?_
                    refine AQ.dropN 1 ?_
                    refine AQ.eqH (H' := H) rfl ?_
                    exact AQ.done1 (Imm.le_refl _) Tryz.results23 rfl ⟨(by first | exact B_f (fun hh => by obtain ⟨g1, g2, g3, g4, g5, g6, g7, g8⟩ := hh; first | omega | exact absurd g1 (by assumption) | exact absurd g2 (by assumption) | (rw [hs.2, drop_cons hx] at g8; obtain ⟨r1, r2, r3, r4⟩ := g8; first | omega | exact absurd r3 (by assumption))) | exact B_t ⟨hlm, Decidable.not_not.1 (by assumption), by omega, by omega, by omega, by omega, by omega, hs.2.2 (by rw [List.drop_of_length_le (by omega)]; trivial)⟩), rfl⟩
                  · refine AQ.fieldv (.on rfl rfl rfl) rfl rfl fo124_0 rfl ?_
                    refine AQ.loadv1 (.on rfl rfl rfl) rfl 0 rfl rfl ag3 rfl ?_
                    refine AQ.fieldv (.on rfl rfl rfl) rfl rfl fo41_4 rfl ?_
                    refine AQ.loadv1 (.on rfl rfl rfl) rfl 1 rfl rfl ag3 rfl ?_
                    refine AQ.gtr (.on rfl rfl rfl) rfl rfl rfl ?_
                    refine AQ.pick_f (.plain rfl) rfl rfl rfl ?_
                    refine AQ.move (.plain rfl) rfl rfl ?_
                    refine AQ.split (t := 71) rfl (fun h12 => ?_) (fun h12 => ?_)
                    · refine AQ.off rfl rfl rfl rfl ?_
                      refine AQ.off rfl rfl rfl rfl ?_
                      refine AQ.off rfl rfl rfl rfl ?_
                      refine AQ.off rfl rfl rfl rfl ?_
                      refine AQ.off rfl rfl rfl rfl ?_
                      refine AQ.off rfl rfl rfl rfl ?_
                      refine AQ.off rfl rfl rfl rfl ?_
                      refine AQ.off rfl rfl rfl rfl ?_
                      refine AQ.pick_t (.plain rfl) rfl rfl rfl ?_
                      refine AQ.nil ?_
                      refine AQ.then_n ?_
                      refine AQ.cond_t rfl ?_
                      refine AQ.seq ?_
                      refine AQ.region ?_
                      refine AQ.assign (.plain rfl) rfl rfl ?_
                      refine AQ.nil ?_
                      refine AQ.then_n ?_
                      refine AQ.ret ?_
                      refine AQ.then_r ?_
                      refine AQ.block_r ?_
                      refine AQ.then_r ?_
                      refine AQ.then_r ?_
                      refine AQ.block_r ?_
                      refine AQ.then_r ?_
                      refine AQ.dropN 1 ?_
                      refine AQ.dropN 1 ?_
                      refine AQ.eqH (H' := H) rfl ?_
                      exact AQ.done1 (Imm.le_refl _) Tryz.results23 rfl ⟨(by first | exact B_f (fun hh => by obtain ⟨g1, g2, g3, g4, g5, g6, g7, g8⟩ := hh; first | omega | exact absurd g1 (by assumption) | exact absurd g2 (by assumption) | (rw [hs.2, drop_cons hx] at g8; obtain ⟨r1, r2, r3, r4⟩ := g8; first | omega | exact absurd r3 (by assumption))) | exact B_t ⟨hlm, Decidable.not_not.1 (by assumption), by omega, by omega, by omega, by omega, by omega, hs.2.2 (by rw [List.drop_of_length_le (by omega)]; trivial)⟩), rfl⟩
                    · refine AQ.fieldv (.on rfl rfl rfl) rfl rfl fo41_0 rfl ?_
                      refine AQ.loadvA (.on rfl rfl rfl) rfl 1 rfl rfl ag37 rfl rfl ?_
                      refine AQ.fieldv (.on rfl rfl rfl) rfl rfl fo124_1 rfl ?_
                      refine AQ.loadv1 (.on rfl rfl rfl) rfl 0 rfl rfl ag3 rfl ?_
                      refine AQ.fieldv (.on rfl rfl rfl) rfl rfl fo124_2 rfl ?_
                      refine AQ.loadv1 (.on rfl rfl rfl) rfl 0 rfl rfl ag38 rfl ?_
                      refine AQ.callf (.on rfl rfl rfl) rfl rfl en80 (ref06sized h.layout x.size x.map _ hlm) ?_
                      refine AQ.not_d (.on rfl rfl rfl) rfl rfl ?_
                      refine AQ.pick_f (.plain rfl) rfl rfl rfl ?_
                      refine AQ.nil ?_
                      refine AQ.then_n ?_
                      refine AQ.cond_d rfl (fun h13 => ?_) (fun h13 => ?_)
                      · refine AQ.seq ?_
                        refine AQ.region ?_
                        refine AQ.assign (.plain rfl) rfl rfl ?_
                        refine AQ.nil ?_
                        refine AQ.then_n ?_
                        refine AQ.ret ?_
                        refine AQ.then_r ?_
                        refine AQ.block_r ?_
                        refine AQ.then_r ?_
                        refine AQ.then_r ?_
                        refine AQ.block_r ?_
                        refine AQ.then_r ?_
                        refine AQ.dropN 1 ?_
                        refine AQ.dropN 1 ?_
                        refine AQ.eqH (H' := H) rfl ?_
                        exact AQ.done1 (Imm.le_refl _) Tryz.results23 rfl ⟨(by first | exact B_f (fun hh => by obtain ⟨g1, g2, g3, g4, g5, g6, g7, g8⟩ := hh; first | omega | exact absurd g1 (by assumption) | exact absurd g2 (by assumption) | (rw [hs.2, drop_cons hx] at g8; obtain ⟨r1, r2, r3, r4⟩ := g8; first | omega | exact absurd r3 (by assumption))) | exact B_t ⟨hlm, Decidable.not_not.1 (by assumption), by omega, by omega, by omega, by omega, by omega, hs.2.2 (by rw [List.drop_of_length_le (by omega)]; trivial)⟩), rfl⟩
                      · refine AQ.skip ?_
                        refine AQ.then_n ?_
                        refine AQ.region ?_
                        refine AQ.fieldv (.plain rfl) rfl rfl fo124_0 rfl ?_
                        refine AQ.loadv1 (.plain rfl) rfl 0 rfl rfl ag3 rfl ?_
                        refine AQ.assign (.plain rfl) rfl rfl ?_
                        refine AQ.nil ?_
                        refine AQ.block_n ?_
                        refine AQ.then_n ?_
                        refine AQ.region ?_
                        refine AQ.move (.plain rfl) rfl rfl ?_
                        refine AQ.add (.plain rfl) rfl rfl rfl (i64_id (by omega) (by omega)) ?_
                        refine AQ.assign (.plain rfl) rfl rfl ?_
                        refine AQ.nil ?_
                        refine AQ.dropN 1 ?_
                        refine AQ.eqH (H' := _ :: H) rfl ?_
                        exact AQ.again (Imm.le_refl _) (s.1 + 1, x.id) ⟨by simp only; omega, by rw [hs.2, drop_cons hx]; exact ⟨fun q => q.2.2.2, fun q => ⟨by omega, by omega, Decidable.not_not.1 (by assumption), q⟩⟩⟩ (by simp only; omega) ⟨rfl, rfl, rfl, trivial⟩ rfl
                · refine AQ.exit ?_
                  refine AQ.then_e ?_
                  refine AQ.then_e ?_
                  refine AQ.block_hit ?_
                  refine AQ.then_n ?_
                  refine AQ.seq ?_
                  refine AQ.region ?_
                  refine AQ.assign (.plain rfl) rfl rfl ?_
                  refine AQ.nil ?_
                  refine AQ.then_n ?_
                  refine AQ.ret ?_
                  refine AQ.dropN 1 ?_
                  refine AQ.eqH (H' := H) rfl ?_
                  exact AQ.done1 (Imm.le_refl _) Tryz.results23 rfl ⟨(by first | exact B_f (fun hh => by obtain ⟨g1, g2, g3, g4, g5, g6, g7, g8⟩ := hh; first | omega | exact absurd g1 (by assumption) | exact absurd g2 (by assumption) | (rw [hs.2, drop_cons hx] at g8; obtain ⟨r1, r2, r3, r4⟩ := g8; first | omega | exact absurd r3 (by assumption))) | exact B_t ⟨hlm, Decidable.not_not.1 (by assumption), by omega, by omega, by omega, by omega, by omega, hs.2.2 (by rw [List.drop_of_length_le (by omega)]; trivial)⟩), rfl⟩
theorem ref06Pack (h : Head) (H : List HA)  : AC Tryz.prog 25 [.agg h.cells] (H) (fun r H' => ∃ v, r = .val v ∧ H' = .osl v 5 1 (byteRows (if h.May then headB h else [])) :: H) := by
  refine AC.enter Tryz.func25 rfl Tryz.ntmps25 rfl (fun I0 => ?_)
  refine AQ.seq ?_
  refine AQ.region ?_
  refine AQ.boxA (.plain rfl) rfl rfl (fun b1 => ?_)
  refine AQ.assign (.plain rfl) rfl rfl ?_
  refine AQ.nil ?_
  refine AQ.then_n ?_
  refine AQ.seq ?_
  refine AQ.region ?_
  refine AQ.loadvA (.plain rfl) rfl 0 rfl rfl ag41 rfl rfl ?_
  refine AQ.callf (.plain rfl) rfl rfl en23 (ref06May h _) ?_
  refine AQ.assign (.plain rfl) rfl rfl ?_
  refine AQ.nil ?_
  refine AQ.then_n ?_
  refine AQ.seq ?_
  refine AQ.seq ?_
  refine AQ.region ?_
  refine AQ.move (.plain rfl) rfl rfl ?_
  refine AQ.not_d (.plain rfl) rfl rfl ?_
  refine AQ.nil ?_
  refine AQ.then_n ?_
  refine AQ.cond_d rfl (fun h2 => ?_) (fun h2 => ?_)
  · refine AQ.seq ?_
    refine AQ.region ?_
    refine AQ.assign (.plain rfl) rfl rfl ?_
    refine AQ.nil ?_
    refine AQ.then_n ?_
    refine AQ.ret ?_
    refine AQ.then_r ?_
    refine AQ.dropN 1 ?_
    refine AQ.eqH (H' := H) rfl ?_
    refine AQ.ownNil (A := none) 5 1 ?_
    exact AQ.done1 (Imm.le_refl _) Tryz.results25 rfl ⟨_, rfl, by rw [if_neg (by assumption)]; rfl⟩
  · refine AQ.skip ?_
    refine AQ.then_n ?_
    refine AQ.seq ?_
    refine AQ.region ?_
    have hM : h.May := Decidable.not_not.1 (by assumption)
    refine AQ.assign (.plain rfl) rfl rfl ?_
    refine AQ.nil ?_
    refine AQ.then_n ?_
    refine AQ.seq ?_
    refine AQ.region ?_
    refine AQ.move (.plain rfl) rfl rfl ?_
    refine AQ.fieldv (.plain rfl) rfl rfl fo41_0 rfl ?_
    refine AQ.fieldv (.plain rfl) rfl rfl fo37_0 rfl ?_
    refine AQ.loadv1 (.plain rfl) rfl 0 rfl rfl ag3 rfl ?_
    refine AQ.callo (.plain rfl) rfl rfl en82 (ref01Num _ _ _) (fun v4 => ?_)
    refine AQ.ownNil (A := none) 5 1 ?_
    refine AQ.append (.plain rfl) rfl 0 rfl (.osl rfl 1 rfl) rfl Tryz.underlying28 el5 rfl rfl (by simp only [List.length_map, List.length_append, numB_len1, w1, w2, w6, List.length_cons, List.length_nil]; omega) (fun v6 => ?_)
    try simp only [List.set_cons_zero, List.set_cons_succ]
    refine AQ.assign (.plain rfl) rfl rfl ?_
    refine AQ.nil ?_
    refine AQ.then_n ?_
    refine AQ.seq ?_
    refine AQ.region ?_
    refine AQ.move (.plain rfl) rfl rfl ?_
    refine AQ.fieldv (.plain rfl) rfl rfl fo41_0 rfl ?_
    refine AQ.fieldv (.plain rfl) rfl rfl fo37_1 rfl ?_
    refine AQ.loadv1 (.plain rfl) rfl 2 rfl rfl ag3 rfl ?_
    refine AQ.callo (.plain rfl) rfl rfl en82 (ref01Num _ _ _) (fun v7 => ?_)
    refine AQ.append (.plain rfl) rfl 1 rfl (.osl rfl 0 rfl) rfl Tryz.underlying28 el5 rfl rfl (by simp only [List.length_map, List.length_append, numB_len1, w1, w2, w6, List.length_cons, List.length_nil]; omega) (fun v8 => ?_)
    try simp only [List.set_cons_zero, List.set_cons_succ]
    refine AQ.assign (.plain rfl) rfl rfl ?_
    refine AQ.nil ?_
    refine AQ.then_n ?_
    refine AQ.seq ?_
    refine AQ.region ?_
    refine AQ.move (.plain rfl) rfl rfl ?_
    refine AQ.fieldv (.plain rfl) rfl rfl fo41_0 rfl ?_
    refine AQ.fieldv (.plain rfl) rfl rfl fo37_2 rfl ?_
    refine AQ.loadv1 (.plain rfl) rfl 3 rfl rfl ag3 rfl ?_
    refine AQ.callo (.plain rfl) rfl rfl en82 (ref01Num _ _ _) (fun v9 => ?_)
    refine AQ.append (.plain rfl) rfl 2 rfl (.osl rfl 0 rfl) rfl Tryz.underlying28 el5 rfl rfl (by simp only [List.length_map, List.length_append, numB_len1, w1, w2, w6, List.length_cons, List.length_nil]; omega) (fun v10 => ?_)
    try simp only [List.set_cons_zero, List.set_cons_succ]
    refine AQ.assign (.plain rfl) rfl rfl ?_
    refine AQ.nil ?_
    refine AQ.then_n ?_
    refine AQ.seq ?_
    refine AQ.region ?_
    refine AQ.move (.plain rfl) rfl rfl ?_
    refine AQ.fieldv (.plain rfl) rfl rfl fo41_4 rfl ?_
    refine AQ.loadv1 (.plain rfl) rfl 4 rfl rfl ag3 rfl ?_
    refine AQ.callo (.plain rfl) rfl rfl en82 (ref01Num _ _ _) (fun v11 => ?_)
    refine AQ.append (.plain rfl) rfl 3 rfl (.osl rfl 0 rfl) rfl Tryz.underlying28 el5 rfl rfl (by simp only [List.length_map, List.length_append, numB_len1, w1, w2, w6, List.length_cons, List.length_nil]; omega) (fun v12 => ?_)
    try simp only [List.set_cons_zero, List.set_cons_succ]
    refine AQ.assign (.plain rfl) rfl rfl ?_
    refine AQ.nil ?_
    refine AQ.then_n ?_
    refine AQ.seq ?_
    refine AQ.region ?_
    refine AQ.move (.plain rfl) rfl rfl ?_
    refine AQ.fieldv (.plain rfl) rfl rfl fo41_1 rfl ?_
    refine AQ.loadv1 (.plain rfl) rfl 5 rfl rfl ag3 rfl ?_
    refine AQ.callo (.plain rfl) rfl rfl en82 (ref01Num _ _ _) (fun v13 => ?_)
    refine AQ.append (.plain rfl) rfl 4 rfl (.osl rfl 0 rfl) rfl Tryz.underlying28 el5 rfl rfl (by simp only [List.length_map, List.length_append, numB_len1, w1, w2, w6, List.length_cons, List.length_nil]; omega) (fun v14 => ?_)
    try simp only [List.set_cons_zero, List.set_cons_succ]
    refine AQ.assign (.plain rfl) rfl rfl ?_
    refine AQ.nil ?_
    refine AQ.then_n ?_
    refine AQ.seq ?_
    refine AQ.region ?_
    refine AQ.move (.plain rfl) rfl rfl ?_
    refine AQ.fieldv (.plain rfl) rfl rfl fo41_5 rfl ?_
    refine AQ.loadv1 (.plain rfl) rfl 6 rfl rfl ag3 rfl ?_
    refine AQ.callo (.plain rfl) rfl rfl en82 (ref01Num _ _ _) (fun v15 => ?_)
    refine AQ.append (.plain rfl) rfl 5 rfl (.osl rfl 0 rfl) rfl Tryz.underlying28 el5 rfl rfl (by simp only [List.length_map, List.length_append, numB_len1, w1, w2, w6, List.length_cons, List.length_nil]; omega) (fun v16 => ?_)
    try simp only [List.set_cons_zero, List.set_cons_succ]
    refine AQ.assign (.plain rfl) rfl rfl ?_
    refine AQ.nil ?_
    refine AQ.then_n ?_
    refine AQ.seq ?_
    refine AQ.region ?_
    refine AQ.move (.plain rfl) rfl rfl ?_
    refine AQ.fieldv (.plain rfl) rfl rfl fo41_2 rfl ?_
    refine AQ.loadv1 (.plain rfl) rfl 7 rfl rfl ag38 rfl ?_
    refine AQ.callo (.plain rfl) rfl rfl en84 (ref05Pack h.map _) (fun v17 => ?_)
    refine AQ.freeze 0 rfl (fun J18 hJ18 hp18 => ?_)
    refine AQ.as (t := 47) rfl hp18 ?_
    refine AQ.callo (.plain rfl) rfl rfl en83 (ref01Blob (mapB h.map) _ (by have := mapB_len h.map; have := rowL_len h.map; omega)) (fun v19 => ?_)
    refine AQ.append (.plain rfl) rfl 6 rfl (.osl rfl 0 rfl) rfl Tryz.underlying28 el5 rfl rfl (by have := blobB_len (mapB h.map); simp only [List.length_map, List.length_append, numB_len1, w1, w2, w6, List.length_cons, List.length_nil]; omega) (fun v20 => ?_)
    try simp only [List.set_cons_zero, List.set_cons_succ]
    refine AQ.assign (.plain rfl) rfl rfl ?_
    refine AQ.nil ?_
    refine AQ.then_n ?_
    refine AQ.seq ?_
    refine AQ.region ?_
    refine AQ.move (.plain rfl) rfl rfl ?_
    refine AQ.fieldv (.plain rfl) rfl rfl fo41_3 rfl ?_
    refine AQ.loadv1 (.plain rfl) rfl 8 rfl rfl ag39 rfl ?_
    refine AQ.slB (t := 52) rfl (fun z0 => ?_)
    simp only [List.length_map] at z0
    refine AQ.lenz (.plain rfl) (.sl rfl) rfl Tryz.underlying39 (by first | (simp only [List.length_map]; rfl) | rfl) ?_
    refine AQ.callo (.plain rfl) rfl rfl en82 (ref01Num _ _ _) (fun v21 => ?_)
    refine AQ.append (.plain rfl) rfl 7 rfl (.osl rfl 0 rfl) rfl Tryz.underlying28 el5 rfl rfl (by have := blobB_len (mapB h.map); simp only [List.length_map, List.length_append, numB_len1, w1, w2, w6, List.length_cons, List.length_nil]; omega) (fun v22 => ?_)
    try simp only [List.set_cons_zero, List.set_cons_succ]
    refine AQ.assign (.plain rfl) rfl rfl ?_
    refine AQ.nil ?_
    refine AQ.then_n ?_
    refine AQ.seq ?_
    refine AQ.seq ?_
    refine AQ.region ?_
    refine AQ.assign (.plain rfl) rfl rfl ?_
    refine AQ.nil ?_
    refine AQ.then_n ?_
    refine AQ.block ?_
    refine AQ.dropN 1 ?_
    refine AQ.dropN 1 ?_
    refine AQ.dropN 1 ?_
    refine AQ.dropN 1 ?_
    refine AQ.dropN 1 ?_
    refine AQ.dropN 1 ?_
    refine AQ.dropN 1 ?_
    refine AQ.front 1 ?_
    refine AQ.dropN 1 ?_
    refine AQ.eqH (H' := _ :: _ :: H) rfl ?_
    refine AQ.loop (σ := Nat × Value) (fun s => [(1, .val (.pointer (some ⟨b1, 0, none⟩))), (4, .val s.2), (5, I (s.1 : Int))]) (fun s => .osl s.2 5 1 (byteRows (headPre h ++ (h.snaps.take s.1).flatMap snapB)) :: .box b1 41 h.cells :: H) (fun s => s.1 ≤ h.snaps.length) (fun s => h.snaps.length - s.1) (0, _) (by simp) ⟨rfl, rfl, rfl, trivial⟩ (by simp only [headPre_nums hM, List.map_append, List.nil_append, List.take_zero, List.flatMap_nil, List.append_nil]) (fun s hs => ?_)
    refine AQ.seq ?_
    refine AQ.seq ?_
    refine AQ.region ?_
    refine AQ.move (.plain rfl) rfl rfl ?_
    refine AQ.fieldv (.plain rfl) rfl rfl fo41_3 rfl ?_
    refine AQ.loadv1 (.plain rfl) rfl 1 rfl rfl ag39 rfl ?_
    refine AQ.slB (t := 58) rfl (fun z1 => ?_)
    simp only [List.length_map] at z1
    refine AQ.lenz (.plain rfl) (.sl rfl) rfl Tryz.underlying39 (by first | (simp only [List.length_map]; rfl) | rfl) ?_
    refine AQ.lss (.plain rfl) rfl rfl rfl ?_
    refine AQ.nil ?_
    refine AQ.then_n ?_
    refine AQ.cond_d rfl (fun h23 => ?_) (fun h23 => ?_)
    · refine AQ.skip ?_
      refine AQ.then_n ?_
      refine AQ.seq ?_
      refine AQ.block ?_
      refine AQ.seq ?_
      refine AQ.region ?_
      refine AQ.fieldv (.plain rfl) rfl rfl fo41_3 rfl ?_
      refine AQ.loadv1 (.plain rfl) rfl 1 rfl rfl ag39 rfl ?_
      refine AQ.move (.plain rfl) rfl rfl ?_
      obtain ⟨x, hx⟩ := lgetz (l := h.snaps) (z := (s.1 : Int)) (by omega) (by omega)
      refine AQ.indexAddr (.plain rfl) rfl rfl rfl Tryz.underlying39 ag124 (by omega) (map_getz hx) ?_
      refine AQ.loadA (.plain rfl) rfl rfl ag124 rfl rfl ?_
      refine AQ.alloc (.plain rfl) zo124 rfl rfl (fun b24 => ?_)
      refine AQ.storevA (.plain rfl) rfl 0 rfl rfl ag124 rfl rfl ?_
      try simp only [List.set_cons_zero, List.set_cons_succ]
      refine AQ.nil ?_
      rw [Int.toNat_natCast] at hx
      refine AQ.then_n ?_
      refine AQ.seq ?_
      refine AQ.region ?_
      refine AQ.move (.plain rfl) rfl rfl ?_
      refine AQ.fieldv (.plain rfl) rfl rfl fo124_0 rfl ?_
      refine AQ.loadv1 (.plain rfl) rfl 0 rfl rfl ag3 rfl ?_
      refine AQ.callo (.plain rfl) rfl rfl en82 (ref01Num _ _ _) (fun v25 => ?_)
      refine AQ.append (.plain rfl) rfl 2 rfl (.osl rfl 0 rfl) rfl Tryz.underlying28 el5 rfl rfl (by have := headPre_len h; have := snapsB_len (h.snaps.take s.1); have := (show (h.snaps.take s.1).length ≤ 4 by rw [List.length_take]; have := hM.2.2.1; omega); simp only [List.length_map, List.length_append, numB_len1, w1, w2, w6, List.length_cons, List.length_nil]; omega) (fun v26 => ?_)
      try simp only [List.set_cons_zero, List.set_cons_succ]
      refine AQ.assign (.plain rfl) rfl rfl ?_
      refine AQ.nil ?_
      refine AQ.then_n ?_
      refine AQ.seq ?_
      refine AQ.region ?_
      refine AQ.move (.plain rfl) rfl rfl ?_
      refine AQ.fieldv (.plain rfl) rfl rfl fo124_1 rfl ?_
      refine AQ.loadv1 (.plain rfl) rfl 1 rfl rfl ag3 rfl ?_
      refine AQ.callo (.plain rfl) rfl rfl en82 (ref01Num _ _ _) (fun v27 => ?_)
      refine AQ.append (.plain rfl) rfl 3 rfl (.osl rfl 0 rfl) rfl Tryz.underlying28 el5 rfl rfl (by have := headPre_len h; have := snapsB_len (h.snaps.take s.1); have := (show (h.snaps.take s.1).length ≤ 4 by rw [List.length_take]; have := hM.2.2.1; omega); simp only [List.length_map, List.length_append, numB_len1, w1, w2, w6, List.length_cons, List.length_nil]; omega) (fun v28 => ?_)
      try simp only [List.set_cons_zero, List.set_cons_succ]
      refine AQ.assign (.plain rfl) rfl rfl ?_
      refine AQ.nil ?_
      refine AQ.then_n ?_
      refine AQ.region ?_
      refine AQ.move (.plain rfl) rfl rfl ?_
      refine AQ.fieldv (.plain rfl) rfl rfl fo124_2 rfl ?_
      refine AQ.loadv1 (.plain rfl) rfl 2 rfl rfl ag38 rfl ?_
      refine AQ.callo (.plain rfl) rfl rfl en84 (ref05Pack x.map _) (fun v29 => ?_)
      refine AQ.freeze 0 rfl (fun J30 hJ30 hp30 => ?_)
      refine AQ.as (t := 81) rfl hp30 ?_
      refine AQ.callo (.plain rfl) rfl rfl en83 (ref01Blob (mapB x.map) _ (by have := mapB_len x.map; have := rowL_len x.map; omega)) (fun v31 => ?_)
      refine AQ.append (.plain rfl) rfl 4 rfl (.osl rfl 0 rfl) rfl Tryz.underlying28 el5 rfl rfl (by have := headPre_len h; have := snapsB_len (h.snaps.take s.1); have := (show (h.snaps.take s.1).length ≤ 4 by rw [List.length_take]; have := hM.2.2.1; omega); have := blobB_len (mapB x.map); simp only [List.length_map, List.length_append, numB_len1, w1, w2, w6, List.length_cons, List.length_nil]; omega) (fun v32 => ?_)
      try simp only [List.set_cons_zero, List.set_cons_succ]
      refine AQ.assign (.plain rfl) rfl rfl ?_
      refine AQ.nil ?_
      refine AQ.block_n ?_
      refine AQ.then_n ?_
      refine AQ.region ?_
      refine AQ.move (.plain rfl) rfl rfl ?_
      refine AQ.add (.plain rfl) rfl rfl rfl (i64_id (by omega) (by omega)) ?_
      refine AQ.assign (.plain rfl) rfl rfl ?_
      refine AQ.nil ?_
      refine AQ.dropN 1 ?_
      refine AQ.dropN 1 ?_
      refine AQ.dropN 1 ?_
      refine AQ.dropN 1 ?_
      refine AQ.eqH (H' := _ :: _ :: H) rfl ?_
      exact AQ.again hJ30 (s.1 + 1, _) (by simp only; omega) (by simp only; omega) ⟨rfl, rfl, rfl, trivial⟩ (by simp only; rw [flat_step hx]; simp only [snapB, List.map_append, List.append_assoc])
    · refine AQ.exit ?_
      refine AQ.then_e ?_
      refine AQ.then_e ?_
      refine AQ.block_hit ?_
      refine AQ.then_n ?_
      refine AQ.seq ?_
      refine AQ.region ?_
      refine AQ.move (.plain rfl) rfl rfl ?_
      refine AQ.assign (.plain rfl) rfl rfl ?_
      refine AQ.nil ?_
      refine AQ.then_n ?_
      refine AQ.ret ?_
      refine AQ.front 1 ?_
      refine AQ.dropN 1 ?_
      refine AQ.eqH (H' := _ :: H) rfl ?_
      exact AQ.done1 hJ18 Tryz.results25 rfl ⟨_, rfl, by rw [if_pos hM, List.take_of_length_le (by omega)]; rfl⟩
theorem ref19digits (n : Int) (k : Nat) (H : List HA) (y0 : 0 ≤ n) (y1 : n ≤ 1000000000) (y2 : k ≤ 9) : AC Tryz.prog 81 [I n, I (k : Int)] (H) (fun r' H' => r' = (str (bs (digR n k))) ∧ H' = H) := by
  refine AC.enter Tryz.func81 rfl Tryz.ntmps81 rfl (fun I0 => ?_)
  refine AQ.seq ?_
  refine AQ.region ?_
  refine AQ.assign (.plain rfl) rfl rfl ?_
  refine AQ.nil ?_
  refine AQ.then_n ?_
  refine AQ.seq ?_
  refine AQ.region ?_
  refine AQ.assign (.plain rfl) rfl rfl ?_
  refine AQ.nil ?_
  refine AQ.then_n ?_
  refine AQ.seq ?_
  refine AQ.seq ?_
  refine AQ.region ?_
  refine AQ.assign (.plain rfl) rfl rfl ?_
  refine AQ.nil ?_
  refine AQ.then_n ?_
  refine AQ.block ?_
  refine AQ.eqv (t := 0) (u := .int .i64 (n / 10 ^ 0)) rfl (by rw [Int.pow_zero, Int.ediv_one]) ?_
  refine AQ.loop (σ := Nat) (fun s => [(0, I (n / 10 ^ s)), (1, I (k : Int)), (5, str (bs (digR n s))), (6, I (s : Int))]) (fun s => H) (fun s => s ≤ k) (fun s => k - s) 0 (by simp) ⟨rfl, rfl, rfl, rfl, trivial⟩ rfl (fun s hs => ?_)
  have hd := div_facts (a := n) (b := 10 ^ s) (m := 1000000000) y0 y1 (Int.pow_pos (by decide))
  refine AQ.seq ?_
  refine AQ.seq ?_
  refine AQ.region ?_
  refine AQ.move (.plain rfl) rfl rfl ?_
  refine AQ.move (.plain rfl) rfl rfl ?_
  refine AQ.lss (.plain rfl) rfl rfl rfl ?_
  refine AQ.nil ?_
  refine AQ.then_n ?_
  refine AQ.cond_d rfl (fun h1 => ?_) (fun h1 => ?_)
  · refine AQ.skip ?_
    refine AQ.then_n ?_
    refine AQ.seq ?_
    refine AQ.block ?_
    refine AQ.seq ?_
    refine AQ.region ?_
    refine AQ.move (.plain rfl) rfl rfl ?_
    refine AQ.rem (.plain rfl) rfl rfl rfl (by omega) (tmod_pos (by omega)) ?_
    refine AQ.add (.plain rfl) rfl rfl rfl (i64_id (by omega) (by omega)) ?_
    refine AQ.conv (.plain rfl) rfl rfl Tryz.underlying3 Tryz.underlying5 (b8_wrap _) ?_
    refine AQ.buildSlice (rows := [[_]]) (.plain rfl) rfl Tryz.underlying28 el5 zo5 rfl rfl rfl (.one rfl (.val rfl) rfl rfl .nil) rfl rfl (by simp) (fun u2 => ?_)
    refine AQ.convB (l := [b8 (48 + n / 10 ^ s % 10)]) (.plain rfl) (.osl rfl 0 rfl) rfl Tryz.underlying28 Tryz.underlying5 Tryz.underlying9 ?_
    refine AQ.move (.plain rfl) rfl rfl ?_
    refine AQ.str_addB (.plain rfl) rfl rfl rfl (by rw [digR_len]; simp; omega) ?_
    refine AQ.eqv (t := 19) (u := .string (bs (digR n (s + 1)))) rfl rfl ?_
    refine AQ.assign (.plain rfl) rfl rfl ?_
    refine AQ.nil ?_
    refine AQ.then_n ?_
    refine AQ.region ?_
    refine AQ.move (.plain rfl) rfl rfl ?_
    refine AQ.quo (.plain rfl) rfl rfl rfl (by omega) (tdiv_pos (by omega) (by omega) (by omega)) ?_
    rw [show n / 10 ^ s / 10 = n / 10 ^ (s + 1) by rw [Int.pow_succ, ediv_ediv' (by have : (0 : Int) < 10 ^ s := Int.pow_pos (by decide); omega)]]
    refine AQ.assign (.plain rfl) rfl rfl ?_
    refine AQ.nil ?_
    refine AQ.block_n ?_
    refine AQ.then_n ?_
    refine AQ.region ?_
    refine AQ.move (.plain rfl) rfl rfl ?_
    refine AQ.add (.plain rfl) rfl rfl rfl (i64_id (by omega) (by omega)) ?_
    refine AQ.assign (.plain rfl) rfl rfl ?_
    refine AQ.nil ?_
    refine AQ.dropN 1 ?_
    refine AQ.eqH (H' := H) rfl ?_
    exact AQ.again (Imm.le_refl _) (s + 1) (by omega) (by omega) ⟨rfl, rfl, rfl, rfl, trivial⟩ rfl
  · refine AQ.exit ?_
    refine AQ.then_e ?_
    refine AQ.then_e ?_
    refine AQ.block_hit ?_
    refine AQ.then_n ?_
    refine AQ.seq ?_
    refine AQ.region ?_
    refine AQ.move (.plain rfl) rfl rfl ?_
    refine AQ.assign (.plain rfl) rfl rfl ?_
    refine AQ.nil ?_
    refine AQ.then_n ?_
    refine AQ.ret ?_
    exact AQ.done1 (Imm.le_refl _) Tryz.results81 rfl ⟨(by rw [show k = s by omega]), rfl⟩
theorem ref19Data (image n : Int) (H : List HA)  : AC Tryz.prog 28 [I image, I n] (H) (fun r' H' => r' = (str (bs (dataName image n))) ∧ H' = H) := by
  refine AC.enter Tryz.func28 rfl Tryz.ntmps28 rfl (fun I0 => ?_)
  have c1 := clamp_range image (lo := 0) (hi := 9) (by decide)
  have c2 := clamp_range n (lo := 0) (hi := 999) (by decide)
  refine AQ.seq ?_
  refine AQ.region ?_
  refine AQ.assign (.plain rfl) rfl rfl ?_
  refine AQ.nil ?_
  refine AQ.then_n ?_
  refine AQ.seq ?_
  refine AQ.region ?_
  refine AQ.move (.plain rfl) rfl rfl ?_
  refine AQ.max2 (.plain rfl) rfl rfl rfl ?_
  refine AQ.min2 (.plain rfl) rfl rfl rfl ?_
  refine AQ.assign (.plain rfl) rfl rfl ?_
  refine AQ.nil ?_
  refine AQ.then_n ?_
  refine AQ.seq ?_
  refine AQ.region ?_
  refine AQ.assign (.plain rfl) rfl rfl ?_
  refine AQ.nil ?_
  refine AQ.then_n ?_
  refine AQ.seq ?_
  refine AQ.seq ?_
  refine AQ.region ?_
  refine AQ.move (.plain rfl) rfl rfl ?_
  refine AQ.gtr (.plain rfl) rfl rfl rfl ?_
  refine AQ.nil ?_
  refine AQ.then_n ?_
  refine AQ.cond_d rfl (fun h1 => ?_) (fun h1 => ?_)
  · refine AQ.region ?_
    refine AQ.assign (.plain rfl) rfl rfl ?_
    refine AQ.nil ?_
    refine AQ.then_n ?_
    refine AQ.seq ?_
    refine AQ.seq ?_
    refine AQ.region ?_
    refine AQ.move (.plain rfl) rfl rfl ?_
    refine AQ.gtr (.plain rfl) rfl rfl rfl ?_
    refine AQ.nil ?_
    refine AQ.then_n ?_
    refine AQ.cond_d rfl (fun h2 => ?_) (fun h2 => ?_)
    · refine AQ.region ?_
      refine AQ.assign (.plain rfl) rfl rfl ?_
      refine AQ.nil ?_
      refine AQ.then_n ?_
      refine AQ.seq ?_
      refine AQ.region ?_
      refine AQ.move (.plain rfl) rfl rfl ?_
      refine AQ.max2 (.plain rfl) rfl rfl rfl ?_
      refine AQ.min2 (.plain rfl) rfl rfl rfl ?_
      refine AQ.callf (.plain rfl) rfl rfl en81 (ref19digits (min (max image 0) 9) 1 _ (by omega) (by omega) (by omega)) ?_
      refine AQ.str_addB (.plain rfl) rfl rfl rfl (by simp only [List.length_append, List.length_cons, List.length_nil, digR_len]; omega) ?_
      refine AQ.str_addB (.plain rfl) rfl rfl rfl (by simp only [List.length_append, List.length_cons, List.length_nil, digR_len]; omega) ?_
      refine AQ.move (.plain rfl) rfl rfl ?_
      refine AQ.move (.plain rfl) rfl rfl ?_
      refine AQ.eqv (t := 20) (u := .int .i64 (digsOf (min (max n 0) 999) : Int)) rfl (by unfold digsOf; first | rw [if_pos (by omega)]; rfl | (rw [if_neg (by omega), if_pos (by omega)]; rfl) | (rw [if_neg (by omega), if_neg (by omega)]; rfl)) ?_
      have hdg := digsOf_le (min (max n 0) 999)
      refine AQ.callf (.plain rfl) rfl rfl en81 (ref19digits _ _ _ (by omega) (by omega) (by omega)) ?_
      refine AQ.str_addB (.plain rfl) rfl rfl rfl (by simp only [List.length_append, List.length_cons, List.length_nil, digR_len]; omega) ?_
      refine AQ.assign (.plain rfl) rfl rfl ?_
      refine AQ.nil ?_
      refine AQ.then_n ?_
      refine AQ.ret ?_
      exact AQ.done1 (Imm.le_refl _) Tryz.results28 rfl ⟨rfl, rfl⟩
    · refine AQ.skip ?_
      refine AQ.then_n ?_
      refine AQ.seq ?_
      refine AQ.region ?_
      refine AQ.move (.plain rfl) rfl rfl ?_
      refine AQ.max2 (.plain rfl) rfl rfl rfl ?_
      refine AQ.min2 (.plain rfl) rfl rfl rfl ?_
      refine AQ.callf (.plain rfl) rfl rfl en81 (ref19digits (min (max image 0) 9) 1 _ (by omega) (by omega) (by omega)) ?_
      refine AQ.str_addB (.plain rfl) rfl rfl rfl (by simp only [List.length_append, List.length_cons, List.length_nil, digR_len]; omega) ?_
      refine AQ.str_addB (.plain rfl) rfl rfl rfl (by simp only [List.length_append, List.length_cons, List.length_nil, digR_len]; omega) ?_
      refine AQ.move (.plain rfl) rfl rfl ?_
      refine AQ.move (.plain rfl) rfl rfl ?_
      refine AQ.eqv (t := 20) (u := .int .i64 (digsOf (min (max n 0) 999) : Int)) rfl (by unfold digsOf; first | rw [if_pos (by omega)]; rfl | (rw [if_neg (by omega), if_pos (by omega)]; rfl) | (rw [if_neg (by omega), if_neg (by omega)]; rfl)) ?_
      have hdg := digsOf_le (min (max n 0) 999)
      refine AQ.callf (.plain rfl) rfl rfl en81 (ref19digits _ _ _ (by omega) (by omega) (by omega)) ?_
      refine AQ.str_addB (.plain rfl) rfl rfl rfl (by simp only [List.length_append, List.length_cons, List.length_nil, digR_len]; omega) ?_
      refine AQ.assign (.plain rfl) rfl rfl ?_
      refine AQ.nil ?_
      refine AQ.then_n ?_
      refine AQ.ret ?_
      exact AQ.done1 (Imm.le_refl _) Tryz.results28 rfl ⟨rfl, rfl⟩
  · refine AQ.skip ?_
    refine AQ.then_n ?_
    refine AQ.seq ?_
    refine AQ.seq ?_
    refine AQ.region ?_
    refine AQ.move (.plain rfl) rfl rfl ?_
    refine AQ.gtr (.plain rfl) rfl rfl rfl ?_
    refine AQ.nil ?_
    refine AQ.then_n ?_
    refine AQ.cond_d rfl (fun h3 => ?_) (fun h3 => ?_)
    · refine AQ.region ?_
      refine AQ.assign (.plain rfl) rfl rfl ?_
      refine AQ.nil ?_
      refine AQ.then_n ?_
      refine AQ.seq ?_
      refine AQ.region ?_
      refine AQ.move (.plain rfl) rfl rfl ?_
      refine AQ.max2 (.plain rfl) rfl rfl rfl ?_
      refine AQ.min2 (.plain rfl) rfl rfl rfl ?_
      refine AQ.callf (.plain rfl) rfl rfl en81 (ref19digits (min (max image 0) 9) 1 _ (by omega) (by omega) (by omega)) ?_
      refine AQ.str_addB (.plain rfl) rfl rfl rfl (by simp only [List.length_append, List.length_cons, List.length_nil, digR_len]; omega) ?_
      refine AQ.str_addB (.plain rfl) rfl rfl rfl (by simp only [List.length_append, List.length_cons, List.length_nil, digR_len]; omega) ?_
      refine AQ.move (.plain rfl) rfl rfl ?_
      refine AQ.move (.plain rfl) rfl rfl ?_
      refine AQ.eqv (t := 20) (u := .int .i64 (digsOf (min (max n 0) 999) : Int)) rfl (by unfold digsOf; first | rw [if_pos (by omega)]; rfl | (rw [if_neg (by omega), if_pos (by omega)]; rfl) | (rw [if_neg (by omega), if_neg (by omega)]; rfl)) ?_
      have hdg := digsOf_le (min (max n 0) 999)
      refine AQ.callf (.plain rfl) rfl rfl en81 (ref19digits _ _ _ (by omega) (by omega) (by omega)) ?_
      refine AQ.str_addB (.plain rfl) rfl rfl rfl (by simp only [List.length_append, List.length_cons, List.length_nil, digR_len]; omega) ?_
      refine AQ.assign (.plain rfl) rfl rfl ?_
      refine AQ.nil ?_
      refine AQ.then_n ?_
      refine AQ.ret ?_
      exact AQ.done1 (Imm.le_refl _) Tryz.results28 rfl ⟨rfl, rfl⟩
    · refine AQ.skip ?_
      refine AQ.then_n ?_
      refine AQ.seq ?_
      refine AQ.region ?_
      refine AQ.move (.plain rfl) rfl rfl ?_
      refine AQ.max2 (.plain rfl) rfl rfl rfl ?_
      refine AQ.min2 (.plain rfl) rfl rfl rfl ?_
      refine AQ.callf (.plain rfl) rfl rfl en81 (ref19digits (min (max image 0) 9) 1 _ (by omega) (by omega) (by omega)) ?_
      refine AQ.str_addB (.plain rfl) rfl rfl rfl (by simp only [List.length_append, List.length_cons, List.length_nil, digR_len]; omega) ?_
      refine AQ.str_addB (.plain rfl) rfl rfl rfl (by simp only [List.length_append, List.length_cons, List.length_nil, digR_len]; omega) ?_
      refine AQ.move (.plain rfl) rfl rfl ?_
      refine AQ.move (.plain rfl) rfl rfl ?_
      refine AQ.eqv (t := 20) (u := .int .i64 (digsOf (min (max n 0) 999) : Int)) rfl (by unfold digsOf; first | rw [if_pos (by omega)]; rfl | (rw [if_neg (by omega), if_pos (by omega)]; rfl) | (rw [if_neg (by omega), if_neg (by omega)]; rfl)) ?_
      have hdg := digsOf_le (min (max n 0) 999)
      refine AQ.callf (.plain rfl) rfl rfl en81 (ref19digits _ _ _ (by omega) (by omega) (by omega)) ?_
      refine AQ.str_addB (.plain rfl) rfl rfl rfl (by simp only [List.length_append, List.length_cons, List.length_nil, digR_len]; omega) ?_
      refine AQ.assign (.plain rfl) rfl rfl ?_
      refine AQ.nil ?_
      refine AQ.then_n ?_
      refine AQ.ret ?_
      exact AQ.done1 (Imm.le_refl _) Tryz.results28 rfl ⟨rfl, rfl⟩
theorem ref19Head (image : Int) (H : List HA)  : AC Tryz.prog 24 [I image] (H) (fun r' H' => r' = (str (bs (headName image))) ∧ H' = H) := by
  refine AC.enter Tryz.func24 rfl Tryz.ntmps24 rfl (fun I0 => ?_)
  have c1 := clamp_range image (lo := 0) (hi := 9) (by decide)
  refine AQ.seq ?_
  refine AQ.region ?_
  refine AQ.assign (.plain rfl) rfl rfl ?_
  refine AQ.nil ?_
  refine AQ.then_n ?_
  refine AQ.seq ?_
  refine AQ.region ?_
  refine AQ.move (.plain rfl) rfl rfl ?_
  refine AQ.max2 (.plain rfl) rfl rfl rfl ?_
  refine AQ.min2 (.plain rfl) rfl rfl rfl ?_
  refine AQ.callf (.plain rfl) rfl rfl en81 (ref19digits (min (max image 0) 9) 1 _ (by omega) (by omega) (by omega)) ?_
  refine AQ.str_addB (.plain rfl) rfl rfl rfl (by simp only [List.length_append, List.length_cons, List.length_nil, digR_len]; omega) ?_
  refine AQ.assign (.plain rfl) rfl rfl ?_
  refine AQ.nil ?_
  refine AQ.then_n ?_
  refine AQ.ret ?_
  exact AQ.done1 (Imm.le_refl _) Tryz.results24 rfl ⟨rfl, rfl⟩
theorem ref19Mark (n : Int) (H : List HA)  : AC Tryz.prog 31 [I n] (H) (fun r' H' => r' = (str (bs (markName n))) ∧ H' = H) := by
  refine AC.enter Tryz.func31 rfl Tryz.ntmps31 rfl (fun I0 => ?_)
  have c1 := clamp_range n (lo := 0) (hi := 999) (by decide)
  refine AQ.seq ?_
  refine AQ.region ?_
  refine AQ.assign (.plain rfl) rfl rfl ?_
  refine AQ.nil ?_
  refine AQ.then_n ?_
  refine AQ.seq ?_
  refine AQ.region ?_
  refine AQ.move (.plain rfl) rfl rfl ?_
  refine AQ.max2 (.plain rfl) rfl rfl rfl ?_
  refine AQ.min2 (.plain rfl) rfl rfl rfl ?_
  refine AQ.callf (.plain rfl) rfl rfl en81 (ref19digits (min (max n 0) 999) 3 _ (by omega) (by omega) (by omega)) ?_
  refine AQ.str_addB (.plain rfl) rfl rfl rfl (by simp only [List.length_append, List.length_cons, List.length_nil, digR_len]; omega) ?_
  refine AQ.assign (.plain rfl) rfl rfl ?_
  refine AQ.nil ?_
  refine AQ.then_n ?_
  refine AQ.ret ?_
  exact AQ.done1 (Imm.le_refl _) Tryz.results31 rfl ⟨rfl, rfl⟩
end Go.Fx
set_option linter.unusedVariables false
set_option linter.unusedSimpArgs false
set_option maxRecDepth 100000
namespace Go.Fx
open Go Go.Proofs

theorem planData (image n : Int) (H : List HA)  : AC Tryz.prog 27 [I image, I n] (H) (fun r' H' => r' = (str (bs (dataName image n))) ∧ H' = H) := by
  refine AC.enter Tryz.func27 rfl Tryz.ntmps27 rfl (fun I0 => ?_)
  have c1 := clamp_range image (lo := 0) (hi := 9) (by decide)
  have c2 := clamp_range n (lo := 0) (hi := 999) (by decide)
  have hdg := digsOf_le (min (max n 0) 999)
  have hd1 : digsOf (min (max image 0) 9) = 1 := (by unfold digsOf; rw [if_neg (by omega), if_neg (by omega)])
  refine AQ.seq ?_
  refine AQ.region ?_
  refine AQ.assign (.plain rfl) rfl rfl ?_
  refine AQ.nil ?_
  refine AQ.then_n ?_
  refine AQ.seq ?_
  refine AQ.region ?_
  refine AQ.move (.plain rfl) rfl rfl ?_
  refine AQ.max2 (.plain rfl) rfl rfl rfl ?_
  refine AQ.min2 (.plain rfl) rfl rfl rfl ?_
  refine AQ.callf (.plain rfl) rfl rfl en85 (itoaC _ _ (by omega) (by omega)) ?_
  rw [hd1]
  refine AQ.str_addB (.plain rfl) rfl rfl rfl (by simp only [List.length_append, List.length_cons, List.length_nil, digR_len, List.length_replicate]; omega) ?_
  refine AQ.str_addB (.plain rfl) rfl rfl rfl (by simp only [List.length_append, List.length_cons, List.length_nil, digR_len, List.length_replicate]; omega) ?_
  refine AQ.move (.plain rfl) rfl rfl ?_
  refine AQ.max2 (.plain rfl) rfl rfl rfl ?_
  refine AQ.min2 (.plain rfl) rfl rfl rfl ?_
  refine AQ.callf (.plain rfl) rfl rfl en85 (itoaC _ _ (by omega) (by omega)) ?_
  refine AQ.str_addB (.plain rfl) rfl rfl rfl (by simp only [List.length_append, List.length_cons, List.length_nil, digR_len, List.length_replicate]; omega) ?_
  refine AQ.assign (.plain rfl) rfl rfl ?_
  refine AQ.nil ?_
  refine AQ.then_n ?_
  refine AQ.ret ?_
  exact AQ.done1 (Imm.le_refl _) Tryz.results27 rfl ⟨rfl, rfl⟩
theorem planHead (image : Int) (H : List HA)  : AC Tryz.prog 29 [I image] (H) (fun r' H' => r' = (str (bs (headName image))) ∧ H' = H) := by
  refine AC.enter Tryz.func29 rfl Tryz.ntmps29 rfl (fun I0 => ?_)
  have c1 := clamp_range image (lo := 0) (hi := 9) (by decide)
  have hd1 : digsOf (min (max image 0) 9) = 1 := (by unfold digsOf; rw [if_neg (by omega), if_neg (by omega)])
  refine AQ.seq ?_
  refine AQ.region ?_
  refine AQ.assign (.plain rfl) rfl rfl ?_
  refine AQ.nil ?_
  refine AQ.then_n ?_
  refine AQ.seq ?_
  refine AQ.region ?_
  refine AQ.move (.plain rfl) rfl rfl ?_
  refine AQ.max2 (.plain rfl) rfl rfl rfl ?_
  refine AQ.min2 (.plain rfl) rfl rfl rfl ?_
  refine AQ.callf (.plain rfl) rfl rfl en85 (itoaC _ _ (by omega) (by omega)) ?_
  rw [hd1]
  refine AQ.str_addB (.plain rfl) rfl rfl rfl (by simp only [List.length_append, List.length_cons, List.length_nil, digR_len, List.length_replicate]; omega) ?_
  refine AQ.assign (.plain rfl) rfl rfl ?_
  refine AQ.nil ?_
  refine AQ.then_n ?_
  refine AQ.ret ?_
  exact AQ.done1 (Imm.le_refl _) Tryz.results29 rfl ⟨rfl, rfl⟩
theorem planMark (n : Int) (H : List HA)  : AC Tryz.prog 30 [I n] (H) (fun r' H' => r' = (str (bs (markName n))) ∧ H' = H) := by
  refine AC.enter Tryz.func30 rfl Tryz.ntmps30 rfl (fun I0 => ?_)
  have c1 := clamp_range n (lo := 0) (hi := 999) (by decide)
  have hdg := digsOf_le (min (max n 0) 999)
  refine AQ.seq ?_
  refine AQ.region ?_
  refine AQ.assign (.plain rfl) rfl rfl ?_
  refine AQ.nil ?_
  refine AQ.then_n ?_
  refine AQ.seq ?_
  refine AQ.region ?_
  refine AQ.move (.plain rfl) rfl rfl ?_
  refine AQ.max2 (.plain rfl) rfl rfl rfl ?_
  refine AQ.min2 (.plain rfl) rfl rfl rfl ?_
  refine AQ.callf (.plain rfl) rfl rfl en85 (itoaC _ _ (by omega) (by omega)) ?_
  refine AQ.assign (.plain rfl) rfl rfl ?_
  refine AQ.nil ?_
  refine AQ.then_n ?_
  refine AQ.seq ?_
  refine AQ.region ?_
  refine AQ.move (.plain rfl) rfl rfl ?_
  refine AQ.lensB (.plain rfl) rfl rfl Tryz.underlying9 ?_
  rw [digR_len]
  refine AQ.sub (.plain rfl) rfl rfl rfl (i64_id (by omega) (by omega)) ?_
  refine AQ.eqv (t := 10) (u := .int .i64 ((3 - digsOf (min (max n 0) 999) : Nat) : Int)) rfl (by congr 1; omega) ?_
  refine AQ.callf (.plain rfl) rfl rfl en86 (repeatC 48 (3 - digsOf (min (max n 0) 999)) _ (by omega)) ?_
  refine AQ.str_addB (.plain rfl) rfl rfl rfl (by simp only [List.length_append, List.length_cons, List.length_nil, digR_len, List.length_replicate]; omega) ?_
  refine AQ.move (.plain rfl) rfl rfl ?_
  refine AQ.str_addB (.plain rfl) rfl rfl rfl (by simp only [List.length_append, List.length_cons, List.length_nil, digR_len, List.length_replicate]; omega) ?_
  refine AQ.assign (.plain rfl) rfl rfl ?_
  refine AQ.nil ?_
  refine AQ.then_n ?_
  refine AQ.ret ?_
  exact AQ.done1 (Imm.le_refl _) Tryz.results30 rfl ⟨(by unfold markName; rw [← digR_fill (n := clamp n 0 999) (by unfold clamp; omega) (by unfold clamp; omega)]; rfl), rfl⟩
theorem headPackY (h : Head) (H : List HA) (hm : h.May) : AC Tryz.prog 70 [.agg h.cells] H (fun r H' => r = .slS 1 (byteRows (headB h)) ∧ H' = H) := (headPack h H).mono (fun r H' hh => by rw [if_pos hm] at hh; exact hh)
theorem headPackN (h : Head) (H : List HA) (hm : ¬ h.May) : AC Tryz.prog 70 [.agg h.cells] H (fun r H' => r = .val (.slice none 0 0) ∧ H' = H) := (headPack h H).mono (fun r H' hh => by rw [if_neg hm] at hh; exact hh)
def headKey : List UInt8 := [104, 101, 97, 100]
def createTxn (image : Int) (h : Head) : Txn := ⟨headName image, [⟨2, 0, 0, [], []⟩, ⟨9, 0, 0, headKey, headB h⟩]⟩

theorem planCreateN (image : Int) (h : Head) (H : List HA) (y0 : ¬ h.May) : AC Tryz.prog 22 [I image, .agg h.cells] (H) (fun r' H' => r' = (.tup [.agg (Txn.cells ⟨[], []⟩), I 60]) ∧ H' = H) := by
  refine AC.enter Tryz.func22 rfl Tryz.ntmps22 rfl (fun I0 => ?_)
  refine AQ.seq ?_
  refine AQ.region ?_
  refine AQ.boxA (.plain rfl) rfl rfl (fun b1 => ?_)
  refine AQ.alloc (.plain rfl) zo53 rfl rfl (fun b2 => ?_)
  refine AQ.assign (.plain rfl) rfl rfl ?_
  refine AQ.nil ?_
  refine AQ.then_n ?_
  refine AQ.seq ?_
  refine AQ.region ?_
  refine AQ.loadvA (.plain rfl) rfl 1 rfl rfl ag41 rfl rfl ?_
  refine AQ.callf (.plain rfl) rfl rfl en70 (headPackN h _ y0) ?_
  refine AQ.assign (.plain rfl) rfl rfl ?_
  refine AQ.nil ?_
  refine AQ.then_n ?_
  refine AQ.seq ?_
  refine AQ.seq ?_
  refine AQ.region ?_
  refine AQ.move (.plain rfl) rfl rfl ?_
  refine AQ.nileq (.plain rfl) rfl rfl rfl Tryz.underlying28 ?_
  refine AQ.nil ?_
  refine AQ.then_n ?_
  refine AQ.cond_t rfl ?_
  refine AQ.seq ?_
  refine AQ.region ?_
  refine AQ.build (.plain rfl) rfl zo53 rfl pl53 .nil ?_
  refine AQ.storevA (.plain rfl) rfl 0 rfl rfl ag53 rfl rfl ?_
  try simp only [List.set_cons_zero, List.set_cons_succ]
  refine AQ.assign (.plain rfl) rfl rfl ?_
  refine AQ.nil ?_
  refine AQ.then_n ?_
  refine AQ.ret ?_
  refine AQ.then_r ?_
  refine AQ.boxW (m := Txn.cells ⟨[], []⟩) 0 rfl (by repeat (first | exact ImpL.nil | apply ImpL.same | apply ImpL.sl0)) ?_
  try simp only [List.set_cons_zero, List.set_cons_succ]
  refine AQ.front 1 ?_
  refine AQ.dropN 1 ?_
  refine AQ.eqH (H' := _ :: H) rfl ?_
  exact AQ.doneC (H' := H) (Imm.le_refl _) Tryz.results22 (.cellA 0 rfl rfl ag53 rfl (.tmp rfl .nil)) 1 rfl ⟨rfl, rfl⟩
theorem planCreateY (image : Int) (h : Head) (H : List HA) (y0 : h.May) : AC Tryz.prog 22 [I image, .agg h.cells] (H) (fun r' H' => r' = (.tup [.agg (createTxn image h).cells, I 0]) ∧ H' = H) := by
  refine AC.enter Tryz.func22 rfl Tryz.ntmps22 rfl (fun I0 => ?_)
  refine AQ.seq ?_
  refine AQ.region ?_
  refine AQ.boxA (.plain rfl) rfl rfl (fun b1 => ?_)
  refine AQ.alloc (.plain rfl) zo53 rfl rfl (fun b2 => ?_)
  refine AQ.assign (.plain rfl) rfl rfl ?_
  refine AQ.nil ?_
  refine AQ.then_n ?_
  refine AQ.seq ?_
  refine AQ.region ?_
  refine AQ.loadvA (.plain rfl) rfl 1 rfl rfl ag41 rfl rfl ?_
  refine AQ.callf (.plain rfl) rfl rfl en70 (headPackY h _ y0) ?_
  refine AQ.assign (.plain rfl) rfl rfl ?_
  refine AQ.nil ?_
  refine AQ.then_n ?_
  refine AQ.seq ?_
  refine AQ.seq ?_
  refine AQ.region ?_
  refine AQ.move (.plain rfl) rfl rfl ?_
  refine AQ.slSeq (.plain rfl) rfl rfl rfl Tryz.underlying28 ?_
  refine AQ.nil ?_
  refine AQ.then_n ?_
  refine AQ.cond_f rfl ?_
  refine AQ.skip ?_
  refine AQ.then_n ?_
  refine AQ.seq ?_
  refine AQ.region ?_
  refine AQ.slSW (t := 6) rfl ?_
  refine AQ.move (.plain rfl) rfl rfl ?_
  refine AQ.callf (.plain rfl) rfl rfl en29 (planHead _ _) ?_
  refine AQ.build (.plain rfl) rfl zo58 rfl pl58 (.one rfl (.val rfl) rfl rfl .nil) ?_
  refine AQ.aggW (t := 14) (m := Op.cells ⟨2, 0, 0, [], []⟩) rfl (by repeat (first | exact ImpL.nil | apply ImpL.same | apply ImpL.sl0)) ?_
  refine AQ.move (.plain rfl) rfl rfl ?_
  refine AQ.build (.plain rfl) rfl zo58 rfl pl58 (.one rfl (.val rfl) rfl rfl (.one rfl (.val rfl) rfl rfl (.one rfl .sl rfl rfl .nil))) ?_
  refine AQ.aggW (t := 16) (m := Op.cells ⟨9, 0, 0, headKey, headB h⟩) rfl (by repeat (first | exact ImpL.nil | apply ImpL.same | apply ImpL.sl0)) ?_
  refine AQ.buildSlice (rows := [[_, _, _, _, _], [_, _, _, _, _]]) (.plain rfl) rfl Tryz.underlying51 el58 zo58 rfl rfl rfl (.agg rfl rfl rfl (.agg rfl rfl rfl .nil)) rfl rfl (by simp) (fun u3 => ?_)
  refine AQ.freeze 0 rfl (fun J4 hJ4 hp4 => ?_)
  refine AQ.as (t := 17) rfl hp4 ?_
  refine AQ.build (.plain rfl) rfl zo53 rfl pl53 (.one rfl (.val rfl) rfl rfl (.one rfl .sl rfl rfl .nil)) ?_
  refine AQ.storevA (.plain rfl) rfl 0 rfl rfl ag53 rfl rfl ?_
  try simp only [List.set_cons_zero, List.set_cons_succ]
  refine AQ.assign (.plain rfl) rfl rfl ?_
  refine AQ.nil ?_
  refine AQ.then_n ?_
  refine AQ.ret ?_
  refine AQ.front 1 ?_
  refine AQ.dropN 1 ?_
  refine AQ.eqH (H' := _ :: H) rfl ?_
  exact AQ.doneC (H' := H) hJ4 Tryz.results22 (.cellA 0 rfl rfl ag53 rfl (.tmp rfl .nil)) 1 rfl ⟨rfl, rfl⟩
end Go.Fx
