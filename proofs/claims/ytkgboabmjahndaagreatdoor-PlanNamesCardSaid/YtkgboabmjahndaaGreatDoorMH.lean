/- Rules for walks, pure facts of the program, contracts of its functions: SQ SR SS. -/
import Derived.Test.YtkgboabmjahndaaGreatDoorMG
import Derived.Test.YtkgboabmjahndaaGreatDoorMC
set_option linter.unusedVariables false
set_option linter.unusedSimpArgs false
set_option maxRecDepth 100000
namespace Go.Fx
open Go Go.Proofs
def Head.Few (h : Head) : Prop := h.map.length ≤ 1000 ∧ h.snaps.length ≤ 10 ∧ ∀ s ∈ h.snaps, s.map.length ≤ 1000
instance (h : Head) : Decidable h.Few := by unfold Head.Few; infer_instance

theorem law19few (h : Head) (H : List HA)  : AC Tryz.prog 17 [.agg h.cells] (H) (fun r' H' => r' = (B h.Few) ∧ H' = H) := by
  refine AC.enter Tryz.func17 rfl Tryz.ntmps17 rfl (fun I0 => ?_)
  refine AQ.seq ?_
  refine AQ.region ?_
  refine AQ.boxA (.plain rfl) rfl rfl (fun b1 => ?_)
  refine AQ.assign (.plain rfl) rfl rfl ?_
  refine AQ.nil ?_
  refine AQ.then_n ?_
  refine AQ.seq ?_
  refine AQ.seq ?_
  refine AQ.region ?_
  refine AQ.fieldv (.plain rfl) rfl rfl fo41_2 rfl ?_
  refine AQ.loadv1 (.plain rfl) rfl 0 rfl rfl ag38 rfl ?_
  refine AQ.slB (t := 5) rfl (fun z0 => ?_)
  simp only [List.length_map] at z0
  refine AQ.lenz (.plain rfl) (.sl rfl) rfl Tryz.underlying38 (by first | (simp only [List.length_map]; rfl) | rfl) ?_
  refine AQ.gtr (.plain rfl) rfl rfl rfl ?_
  refine AQ.move (.plain rfl) rfl rfl ?_
  refine AQ.split (t := 8) rfl (fun h2 => ?_) (fun h2 => ?_)
  · refine AQ.off rfl rfl rfl rfl ?_
    refine AQ.off rfl rfl rfl rfl ?_
    refine AQ.off rfl rfl rfl rfl ?_
    refine AQ.off rfl rfl rfl rfl ?_
    refine AQ.pick_t (.plain rfl) rfl rfl rfl ?_
    refine AQ.nil ?_
    refine AQ.then_n ?_
    refine AQ.cond_t rfl ?_
    refine AQ.seq ?_
    refine AQ.region ?_
    refine AQ.assign (.plain rfl) rfl rfl ?_
    refine AQ.nil ?_
    refine AQ.then_n ?_
    refine AQ.ret ?_
    refine AQ.then_r ?_
    refine AQ.dropN 1 ?_
    refine AQ.eqH (H' := H) rfl ?_
    exact AQ.done1 (Imm.le_refl _) Tryz.results17 rfl ⟨(by unfold Head.Few; first | exact B_f (fun hh => by have := hh.2.2 x (List.mem_of_getElem? hx); omega) | exact B_t ⟨by omega, by omega, by have h := hs.2; rwa [List.take_of_length_le (by omega)] at h⟩ | exact B_f (fun hh => by have h1 := hh.1; have h2 := hh.2.1; omega)), rfl⟩
  · refine AQ.fieldv (.on rfl rfl rfl) rfl rfl fo41_3 rfl ?_
    refine AQ.loadv1 (.on rfl rfl rfl) rfl 0 rfl rfl ag39 rfl ?_
    refine AQ.slB (t := 10) rfl (fun z2 => ?_)
    simp only [List.length_map] at z2
    refine AQ.lenz (.on rfl rfl rfl) (.sl rfl) rfl Tryz.underlying39 (by first | (simp only [List.length_map]; rfl) | rfl) ?_
    refine AQ.gtr (.on rfl rfl rfl) rfl rfl rfl ?_
    refine AQ.pick_f (.plain rfl) rfl rfl rfl ?_
    refine AQ.nil ?_
    refine AQ.then_n ?_
    refine AQ.cond_d rfl (fun h3 => ?_) (fun h3 => ?_)
    · refine AQ.seq ?_
      refine AQ.region ?_
      refine AQ.assign (.plain rfl) rfl rfl ?_
      refine AQ.nil ?_
      refine AQ.then_n ?_
      refine AQ.ret ?_
      refine AQ.then_r ?_
      refine AQ.dropN 1 ?_
      refine AQ.eqH (H' := H) rfl ?_
      exact AQ.done1 (Imm.le_refl _) Tryz.results17 rfl ⟨(by unfold Head.Few; first | exact B_f (fun hh => by have := hh.2.2 x (List.mem_of_getElem? hx); omega) | exact B_t ⟨by omega, by omega, by have h := hs.2; rwa [List.take_of_length_le (by omega)] at h⟩ | exact B_f (fun hh => by have h1 := hh.1; have h2 := hh.2.1; omega)), rfl⟩
    · refine AQ.skip ?_
      refine AQ.then_n ?_
      refine AQ.seq ?_
      refine AQ.seq ?_
      refine AQ.region ?_
      refine AQ.assign (.plain rfl) rfl rfl ?_
      refine AQ.nil ?_
      refine AQ.then_n ?_
      refine AQ.block ?_
      refine AQ.loop (σ := Nat) (fun s => [(1, .val (.pointer (some ⟨b1, 0, none⟩))), (3, I (s : Int))]) (fun s => .box b1 41 h.cells :: H) (fun s => s ≤ h.snaps.length ∧ ∀ y ∈ h.snaps.take s, y.map.length ≤ 1000) (fun s => h.snaps.length - s) 0 (by simp) ⟨rfl, rfl, trivial⟩ rfl (fun s hs => ?_)
      refine AQ.seq ?_
      refine AQ.seq ?_
      refine AQ.region ?_
      refine AQ.move (.plain rfl) rfl rfl ?_
      refine AQ.fieldv (.plain rfl) rfl rfl fo41_3 rfl ?_
      refine AQ.loadv1 (.plain rfl) rfl 0 rfl rfl ag39 rfl ?_
      refine AQ.slB (t := 16) rfl (fun z1 => ?_)
      simp only [List.length_map] at z1
      refine AQ.lenz (.plain rfl) (.sl rfl) rfl Tryz.underlying39 (by first | (simp only [List.length_map]; rfl) | rfl) ?_
      refine AQ.lss (.plain rfl) rfl rfl rfl ?_
      refine AQ.nil ?_
      refine AQ.then_n ?_
      refine AQ.cond_d rfl (fun h4 => ?_) (fun h4 => ?_)
      · refine AQ.skip ?_
        refine AQ.then_n ?_
        refine AQ.seq ?_
        refine AQ.block ?_
        refine AQ.seq ?_
        refine AQ.region ?_
        refine AQ.fieldv (.plain rfl) rfl rfl fo41_3 rfl ?_
        refine AQ.loadv1 (.plain rfl) rfl 0 rfl rfl ag39 rfl ?_
        refine AQ.move (.plain rfl) rfl rfl ?_
        obtain ⟨x, hx⟩ := lgetz (l := h.snaps) (z := (s : Int)) (by omega) (by omega)
        refine AQ.indexAddr (.plain rfl) rfl rfl rfl Tryz.underlying39 ag124 (by omega) (map_getz hx) ?_
        rw [Int.toNat_natCast] at hx
        refine AQ.fieldAddr (.plain rfl) rfl rfl fo124_2 rfl ?_
        refine AQ.load1 (.plain rfl) rfl rfl ag38 rfl ?_
        refine AQ.slB (t := 26) rfl (fun z3 => ?_)
        simp only [List.length_map] at z3
        refine AQ.lenz (.plain rfl) (.sl rfl) rfl Tryz.underlying38 (by first | (simp only [List.length_map]; rfl) | rfl) ?_
        refine AQ.gtr (.plain rfl) rfl rfl rfl ?_
        refine AQ.nil ?_
        refine AQ.then_n ?_
        refine AQ.cond_d rfl (fun h5 => ?_) (fun h5 => ?_)
        · refine AQ.seq ?_
          refine AQ.region ?_
          refine AQ.assign (.plain rfl) rfl rfl ?_
          refine AQ.nil ?_
          refine AQ.then_n ?_
          refine AQ.ret ?_
          refine AQ.block_r ?_
          refine AQ.then_r ?_
          refine AQ.then_r ?_
          refine AQ.block_r ?_
          refine AQ.then_r ?_
          refine AQ.dropN 1 ?_
          refine AQ.eqH (H' := H) rfl ?_
          exact AQ.done1 (Imm.le_refl _) Tryz.results17 rfl ⟨(by unfold Head.Few; first | exact B_f (fun hh => by have := hh.2.2 x (List.mem_of_getElem? hx); omega) | exact B_t ⟨by omega, by omega, by have h := hs.2; rwa [List.take_of_length_le (by omega)] at h⟩ | exact B_f (fun hh => by have h1 := hh.1; have h2 := hh.2.1; omega)), rfl⟩
        · refine AQ.skip ?_
          refine AQ.block_n ?_
          refine AQ.then_n ?_
          refine AQ.region ?_
          refine AQ.move (.plain rfl) rfl rfl ?_
          refine AQ.add (.plain rfl) rfl rfl rfl (i64_id (by omega) (by omega)) ?_
          refine AQ.assign (.plain rfl) rfl rfl ?_
          refine AQ.nil ?_
          exact AQ.again (Imm.le_refl _) (s + 1) ⟨by omega, by intro y hy; rw [List.take_add_one, hx] at hy; rcases List.mem_append.1 hy with hy | hy; exact hs.2 y hy; simp at hy; subst hy; omega⟩ (by omega) ⟨rfl, rfl, trivial⟩ rfl
      · refine AQ.exit ?_
        refine AQ.then_e ?_
        refine AQ.then_e ?_
        refine AQ.block_hit ?_
        refine AQ.then_n ?_
        refine AQ.seq ?_
        refine AQ.region ?_
        refine AQ.assign (.plain rfl) rfl rfl ?_
        refine AQ.nil ?_
        refine AQ.then_n ?_
        refine AQ.ret ?_
        refine AQ.dropN 1 ?_
        refine AQ.eqH (H' := H) rfl ?_
        exact AQ.done1 (Imm.le_refl _) Tryz.results17 rfl ⟨(by unfold Head.Few; first | exact B_f (fun hh => by have := hh.2.2 x (List.mem_of_getElem? hx); omega) | exact B_t ⟨by omega, by omega, by have h := hs.2; rwa [List.take_of_length_le (by omega)] at h⟩ | exact B_f (fun hh => by have h1 := hh.1; have h2 := hh.2.1; omega)), rfl⟩
theorem ref09Same (t : Txn) (H : List HA)  : AC Tryz.prog 26 [.agg t.cells, .agg t.cells] (H) (fun r' H' => r' = (.val (.bool true)) ∧ H' = H) := by
  refine AC.enter Tryz.func26 rfl Tryz.ntmps26 rfl (fun I0 => ?_)
  refine AQ.seq ?_
  refine AQ.region ?_
  refine AQ.boxA (.plain rfl) rfl rfl (fun b1 => ?_)
  refine AQ.boxA (.plain rfl) rfl rfl (fun b2 => ?_)
  refine AQ.assign (.plain rfl) rfl rfl ?_
  refine AQ.nil ?_
  refine AQ.then_n ?_
  refine AQ.seq ?_
  refine AQ.seq ?_
  refine AQ.region ?_
  refine AQ.fieldv (.plain rfl) rfl rfl fo53_0 rfl ?_
  refine AQ.loadv1 (.plain rfl) rfl 1 rfl rfl ag9 rfl ?_
  refine AQ.fieldv (.plain rfl) rfl rfl fo53_0 rfl ?_
  refine AQ.loadv1 (.plain rfl) rfl 0 rfl rfl ag9 rfl ?_
  refine AQ.nesB (.plain rfl) rfl rfl rfl ?_
  refine AQ.move (.plain rfl) rfl rfl ?_
  refine AQ.split (t := 13) rfl (fun h3 => ?_) (fun h3 => ?_)
  · refine AQ.off rfl rfl rfl rfl ?_
    refine AQ.off rfl rfl rfl rfl ?_
    refine AQ.off rfl rfl rfl rfl ?_
    refine AQ.off rfl rfl rfl rfl ?_
    refine AQ.off rfl rfl rfl rfl ?_
    refine AQ.off rfl rfl rfl rfl ?_
    refine AQ.off rfl rfl rfl rfl ?_
    refine AQ.pick_t (.plain rfl) rfl rfl rfl ?_
    refine AQ.nil ?_
    refine AQ.then_n ?_
    refine AQ.cond_t rfl ?_
    refine AQ.seq ?_
    refine AQ.region ?_
    refine AQ.assign (.plain rfl) rfl rfl ?_
    refine AQ.nil ?_
    refine AQ.then_n ?_
    refine AQ.ret ?_
    refine AQ.then_r ?_
    refine AQ.dropN 1 ?_
    refine AQ.dropN 1 ?_
    refine AQ.eqH (H' := H) rfl ?_
    exact AQ.done1 (Imm.le_refl _) Tryz.results26 rfl ⟨(by first | rfl | exact absurd rfl (by assumption)), rfl⟩
  · refine AQ.fieldv (.on rfl rfl rfl) rfl rfl fo53_1 rfl ?_
    refine AQ.loadv1 (.on rfl rfl rfl) rfl 1 rfl rfl ag51 rfl ?_
    refine AQ.slB (t := 15) rfl (fun z0 => ?_)
    simp only [List.length_map] at z0
    refine AQ.lenz (.on rfl rfl rfl) (.sl rfl) rfl Tryz.underlying51 (by first | (simp only [List.length_map]; rfl) | rfl) ?_
    refine AQ.fieldv (.on rfl rfl rfl) rfl rfl fo53_1 rfl ?_
    refine AQ.loadv1 (.on rfl rfl rfl) rfl 0 rfl rfl ag51 rfl ?_
    refine AQ.lenz (.on rfl rfl rfl) (.sl rfl) rfl Tryz.underlying51 (by first | (simp only [List.length_map]; rfl) | rfl) ?_
    refine AQ.neq (.on rfl rfl rfl) rfl rfl rfl ?_
    refine AQ.pick_f (.plain rfl) rfl rfl rfl ?_
    refine AQ.nil ?_
    refine AQ.then_n ?_
    refine AQ.cond_d rfl (fun h4 => ?_) (fun h4 => ?_)
    · refine AQ.seq ?_
      refine AQ.region ?_
      refine AQ.assign (.plain rfl) rfl rfl ?_
      refine AQ.nil ?_
      refine AQ.then_n ?_
      refine AQ.ret ?_
      refine AQ.then_r ?_
      refine AQ.dropN 1 ?_
      refine AQ.dropN 1 ?_
      refine AQ.eqH (H' := H) rfl ?_
      exact AQ.done1 (Imm.le_refl _) Tryz.results26 rfl ⟨(by first | rfl | exact absurd rfl (by assumption)), rfl⟩
    · refine AQ.skip ?_
      refine AQ.then_n ?_
      refine AQ.seq ?_
      refine AQ.seq ?_
      refine AQ.region ?_
      refine AQ.assign (.plain rfl) rfl rfl ?_
      refine AQ.nil ?_
      refine AQ.then_n ?_
      refine AQ.block ?_
      refine AQ.loop (σ := Nat) (fun s => [(2, .val (.pointer (some ⟨b1, 0, none⟩))), (3, .val (.pointer (some ⟨b2, 0, none⟩))), (5, I (s : Int))]) (fun s => .box b2 53 t.cells :: .box b1 53 t.cells :: H) (fun s => s ≤ t.ops.length) (fun s => t.ops.length - s) 0 (by simp) ⟨rfl, rfl, rfl, trivial⟩ rfl (fun s hs => ?_)
      refine AQ.seq ?_
      refine AQ.seq ?_
      refine AQ.region ?_
      refine AQ.move (.plain rfl) rfl rfl ?_
      refine AQ.fieldv (.plain rfl) rfl rfl fo53_1 rfl ?_
      refine AQ.loadv1 (.plain rfl) rfl 1 rfl rfl ag51 rfl ?_
      refine AQ.slB (t := 24) rfl (fun z1 => ?_)
      simp only [List.length_map] at z1
      refine AQ.lenz (.plain rfl) (.sl rfl) rfl Tryz.underlying51 (by first | (simp only [List.length_map]; rfl) | rfl) ?_
      refine AQ.lss (.plain rfl) rfl rfl rfl ?_
      refine AQ.nil ?_
      refine AQ.then_n ?_
      refine AQ.cond_d rfl (fun h5 => ?_) (fun h5 => ?_)
      · refine AQ.skip ?_
        refine AQ.then_n ?_
        refine AQ.seq ?_
        refine AQ.block ?_
        refine AQ.seq ?_
        refine AQ.region ?_
        refine AQ.fieldv (.plain rfl) rfl rfl fo53_1 rfl ?_
        refine AQ.loadv1 (.plain rfl) rfl 1 rfl rfl ag51 rfl ?_
        refine AQ.move (.plain rfl) rfl rfl ?_
        obtain ⟨x, hx⟩ := lgetz (l := t.ops) (z := (s : Int)) (by omega) (by omega)
        refine AQ.indexAddr (.plain rfl) rfl rfl rfl Tryz.underlying51 ag58 (by omega) (map_getz hx) ?_
        refine AQ.loadA (.plain rfl) rfl rfl ag58 rfl rfl ?_
        refine AQ.alloc (.plain rfl) zo58 rfl rfl (fun b6 => ?_)
        refine AQ.storevA (.plain rfl) rfl 0 rfl rfl ag58 rfl rfl ?_
        try simp only [List.set_cons_zero, List.set_cons_succ]
        refine AQ.nil ?_
        refine AQ.then_n ?_
        refine AQ.seq ?_
        refine AQ.region ?_
        refine AQ.fieldv (.plain rfl) rfl rfl fo53_1 rfl ?_
        refine AQ.loadv1 (.plain rfl) rfl 1 rfl rfl ag51 rfl ?_
        refine AQ.move (.plain rfl) rfl rfl ?_
        refine AQ.indexAddr (.plain rfl) rfl rfl rfl Tryz.underlying51 ag58 (by omega) (map_getz hx) ?_
        refine AQ.loadA (.plain rfl) rfl rfl ag58 rfl rfl ?_
        refine AQ.alloc (.plain rfl) zo58 rfl rfl (fun b7 => ?_)
        refine AQ.storevA (.plain rfl) rfl 0 rfl rfl ag58 rfl rfl ?_
        try simp only [List.set_cons_zero, List.set_cons_succ]
        refine AQ.nil ?_
        refine AQ.then_n ?_
        refine AQ.seq ?_
        refine AQ.region ?_
        refine AQ.fieldv (.plain rfl) rfl rfl fo58_0 rfl ?_
        refine AQ.loadv1 (.plain rfl) rfl 1 rfl rfl ag3 rfl ?_
        refine AQ.fieldv (.plain rfl) rfl rfl fo58_0 rfl ?_
        refine AQ.loadv1 (.plain rfl) rfl 0 rfl rfl ag3 rfl ?_
        refine AQ.neq (.plain rfl) rfl rfl rfl ?_
        refine AQ.move (.plain rfl) rfl rfl ?_
        refine AQ.split (t := 44) rfl (fun h8 => ?_) (fun h8 => ?_)
        · refine AQ.off rfl rfl rfl rfl ?_
          refine AQ.off rfl rfl rfl rfl ?_
          refine AQ.off rfl rfl rfl rfl ?_
          refine AQ.off rfl rfl rfl rfl ?_
          refine AQ.off rfl rfl rfl rfl ?_
          refine AQ.pick_t (.plain rfl) rfl rfl rfl ?_
          refine AQ.move (.plain rfl) rfl rfl ?_
          refine AQ.off rfl rfl rfl rfl ?_
          refine AQ.off rfl rfl rfl rfl ?_
          refine AQ.off rfl rfl rfl rfl ?_
          refine AQ.off rfl rfl rfl rfl ?_
          refine AQ.off rfl rfl rfl rfl ?_
          refine AQ.pick_t (.plain rfl) rfl rfl rfl ?_
          refine AQ.move (.plain rfl) rfl rfl ?_
          refine AQ.off rfl rfl rfl rfl ?_
          refine AQ.off rfl rfl rfl rfl ?_
          refine AQ.off rfl rfl rfl rfl ?_
          refine AQ.off rfl rfl rfl rfl ?_
          refine AQ.off rfl rfl rfl rfl ?_
          refine AQ.pick_t (.plain rfl) rfl rfl rfl ?_
          refine AQ.move (.plain rfl) rfl rfl ?_
          refine AQ.off rfl rfl rfl rfl ?_
          refine AQ.off rfl rfl rfl rfl ?_
          refine AQ.off rfl rfl rfl rfl ?_
          refine AQ.off rfl rfl rfl rfl ?_
          refine AQ.off rfl rfl rfl rfl ?_
          refine AQ.off rfl rfl rfl rfl ?_
          refine AQ.off rfl rfl rfl rfl ?_
          refine AQ.pick_t (.plain rfl) rfl rfl rfl ?_
          refine AQ.nil ?_
          refine AQ.then_n ?_
          refine AQ.cond_t rfl ?_
          refine AQ.seq ?_
          refine AQ.region ?_
          refine AQ.assign (.plain rfl) rfl rfl ?_
          refine AQ.nil ?_
          refine AQ.then_n ?_
          refine AQ.ret ?_
          refine AQ.block_r ?_
          refine AQ.then_r ?_
          refine AQ.then_r ?_
          refine AQ.block_r ?_
          refine AQ.then_r ?_
          refine AQ.dropN 1 ?_
          refine AQ.dropN 1 ?_
          refine AQ.dropN 1 ?_
          refine AQ.dropN 1 ?_
          refine AQ.eqH (H' := H) rfl ?_
          exact AQ.done1 (Imm.le_refl _) Tryz.results26 rfl ⟨(by first | rfl | exact absurd rfl (by assumption)), rfl⟩
        · refine AQ.fieldv (.on rfl rfl rfl) rfl rfl fo58_1 rfl ?_
          refine AQ.loadv1 (.on rfl rfl rfl) rfl 1 rfl rfl ag3 rfl ?_
          refine AQ.fieldv (.on rfl rfl rfl) rfl rfl fo58_1 rfl ?_
          refine AQ.loadv1 (.on rfl rfl rfl) rfl 0 rfl rfl ag3 rfl ?_
          refine AQ.neq (.on rfl rfl rfl) rfl rfl rfl ?_
          refine AQ.pick_f (.plain rfl) rfl rfl rfl ?_
          refine AQ.move (.plain rfl) rfl rfl ?_
          refine AQ.split (t := 51) rfl (fun h9 => ?_) (fun h9 => ?_)
          · refine AQ.off rfl rfl rfl rfl ?_
            refine AQ.off rfl rfl rfl rfl ?_
            refine AQ.off rfl rfl rfl rfl ?_
            refine AQ.off rfl rfl rfl rfl ?_
            refine AQ.off rfl rfl rfl rfl ?_
            refine AQ.pick_t (.plain rfl) rfl rfl rfl ?_
            refine AQ.move (.plain rfl) rfl rfl ?_
            refine AQ.off rfl rfl rfl rfl ?_
            refine AQ.off rfl rfl rfl rfl ?_
            refine AQ.off rfl rfl rfl rfl ?_
            refine AQ.off rfl rfl rfl rfl ?_
            refine AQ.off rfl rfl rfl rfl ?_
            refine AQ.pick_t (.plain rfl) rfl rfl rfl ?_
            refine AQ.move (.plain rfl) rfl rfl ?_
            refine AQ.off rfl rfl rfl rfl ?_
            refine AQ.off rfl rfl rfl rfl ?_
            refine AQ.off rfl rfl rfl rfl ?_
            refine AQ.off rfl rfl rfl rfl ?_
            refine AQ.off rfl rfl rfl rfl ?_
            refine AQ.off rfl rfl rfl rfl ?_
            refine AQ.off rfl rfl rfl rfl ?_
            refine AQ.pick_t (.plain rfl) rfl rfl rfl ?_
            refine AQ.nil ?_
            refine AQ.then_n ?_
            refine AQ.cond_t rfl ?_
            refine AQ.seq ?_
            refine AQ.region ?_
            refine AQ.assign (.plain rfl) rfl rfl ?_
            refine AQ.nil ?_
            refine AQ.then_n ?_
            refine AQ.ret ?_
            refine AQ.block_r ?_
            refine AQ.then_r ?_
            refine AQ.then_r ?_
            refine AQ.block_r ?_
            refine AQ.then_r ?_
            refine AQ.dropN 1 ?_
            refine AQ.dropN 1 ?_
            refine AQ.dropN 1 ?_
            refine AQ.dropN 1 ?_
            refine AQ.eqH (H' := H) rfl ?_
            exact AQ.done1 (Imm.le_refl _) Tryz.results26 rfl ⟨(by first | rfl | exact absurd rfl (by assumption)), rfl⟩
          · refine AQ.fieldv (.on rfl rfl rfl) rfl rfl fo58_2 rfl ?_
            refine AQ.loadv1 (.on rfl rfl rfl) rfl 1 rfl rfl ag3 rfl ?_
            refine AQ.fieldv (.on rfl rfl rfl) rfl rfl fo58_2 rfl ?_
            refine AQ.loadv1 (.on rfl rfl rfl) rfl 0 rfl rfl ag3 rfl ?_
            refine AQ.neq (.on rfl rfl rfl) rfl rfl rfl ?_
            refine AQ.pick_f (.plain rfl) rfl rfl rfl ?_
            refine AQ.move (.plain rfl) rfl rfl ?_
            refine AQ.split (t := 58) rfl (fun h10 => ?_) (fun h10 => ?_)
            · refine AQ.off rfl rfl rfl rfl ?_
              refine AQ.off rfl rfl rfl rfl ?_
              refine AQ.off rfl rfl rfl rfl ?_
              refine AQ.off rfl rfl rfl rfl ?_
              refine AQ.off rfl rfl rfl rfl ?_
              refine AQ.pick_t (.plain rfl) rfl rfl rfl ?_
              refine AQ.move (.plain rfl) rfl rfl ?_
              refine AQ.off rfl rfl rfl rfl ?_
              refine AQ.off rfl rfl rfl rfl ?_
              refine AQ.off rfl rfl rfl rfl ?_
              refine AQ.off rfl rfl rfl rfl ?_
              refine AQ.off rfl rfl rfl rfl ?_
              refine AQ.off rfl rfl rfl rfl ?_
              refine AQ.off rfl rfl rfl rfl ?_
              refine AQ.pick_t (.plain rfl) rfl rfl rfl ?_
              refine AQ.nil ?_
              refine AQ.then_n ?_
              refine AQ.cond_t rfl ?_
              refine AQ.seq ?_
              refine AQ.region ?_
              refine AQ.assign (.plain rfl) rfl rfl ?_
              refine AQ.nil ?_
              refine AQ.then_n ?_
              refine AQ.ret ?_
              refine AQ.block_r ?_
              refine AQ.then_r ?_
              refine AQ.then_r ?_
              refine AQ.block_r ?_
              refine AQ.then_r ?_
              refine AQ.dropN 1 ?_
              refine AQ.dropN 1 ?_
              refine AQ.dropN 1 ?_
              refine AQ.dropN 1 ?_
              refine AQ.eqH (H' := H) rfl ?_
              exact AQ.done1 (Imm.le_refl _) Tryz.results26 rfl ⟨(by first | rfl | exact absurd rfl (by assumption)), rfl⟩
            · refine AQ.fieldv (.on rfl rfl rfl) rfl rfl fo58_3 rfl ?_
              refine AQ.loadv1 (.on rfl rfl rfl) rfl 1 rfl rfl ag9 rfl ?_
              refine AQ.fieldv (.on rfl rfl rfl) rfl rfl fo58_3 rfl ?_
              refine AQ.loadv1 (.on rfl rfl rfl) rfl 0 rfl rfl ag9 rfl ?_
              refine AQ.nesB (.on rfl rfl rfl) rfl rfl rfl ?_
              refine AQ.pick_f (.plain rfl) rfl rfl rfl ?_
              refine AQ.move (.plain rfl) rfl rfl ?_
              refine AQ.split (t := 65) rfl (fun h11 => ?_) (fun h11 => ?_)
              · refine AQ.off rfl rfl rfl rfl ?_
                refine AQ.off rfl rfl rfl rfl ?_
                refine AQ.off rfl rfl rfl rfl ?_
                refine AQ.off rfl rfl rfl rfl ?_
                refine AQ.off rfl rfl rfl rfl ?_
                refine AQ.off rfl rfl rfl rfl ?_
                refine AQ.off rfl rfl rfl rfl ?_
                refine AQ.pick_t (.plain rfl) rfl rfl rfl ?_
                refine AQ.nil ?_
                refine AQ.then_n ?_
                refine AQ.cond_t rfl ?_
                refine AQ.seq ?_
                refine AQ.region ?_
                refine AQ.assign (.plain rfl) rfl rfl ?_
                refine AQ.nil ?_
                refine AQ.then_n ?_
                refine AQ.ret ?_
                refine AQ.block_r ?_
                refine AQ.then_r ?_
                refine AQ.then_r ?_
                refine AQ.block_r ?_
                refine AQ.then_r ?_
                refine AQ.dropN 1 ?_
                refine AQ.dropN 1 ?_
                refine AQ.dropN 1 ?_
                refine AQ.dropN 1 ?_
                refine AQ.eqH (H' := H) rfl ?_
                exact AQ.done1 (Imm.le_refl _) Tryz.results26 rfl ⟨(by first | rfl | exact absurd rfl (by assumption)), rfl⟩
              · refine AQ.fieldv (.on rfl rfl rfl) rfl rfl fo58_4 rfl ?_
                refine AQ.loadv1 (.on rfl rfl rfl) rfl 1 rfl rfl ag28 rfl ?_
                refine AQ.convB (.on rfl rfl rfl) (.sl rfl) rfl Tryz.underlying28 Tryz.underlying5 Tryz.underlying9 ?_
                refine AQ.fieldv (.on rfl rfl rfl) rfl rfl fo58_4 rfl ?_
                refine AQ.loadv1 (.on rfl rfl rfl) rfl 0 rfl rfl ag28 rfl ?_
                refine AQ.convB (.on rfl rfl rfl) (.sl rfl) rfl Tryz.underlying28 Tryz.underlying5 Tryz.underlying9 ?_
                refine AQ.nesB (.on rfl rfl rfl) rfl rfl rfl ?_
                refine AQ.pick_f (.plain rfl) rfl rfl rfl ?_
                refine AQ.nil ?_
                refine AQ.then_n ?_
                refine AQ.cond_d rfl (fun h12 => ?_) (fun h12 => ?_)
                · refine AQ.seq ?_
                  refine AQ.region ?_
                  refine AQ.assign (.plain rfl) rfl rfl ?_
                  refine AQ.nil ?_
                  refine AQ.then_n ?_
                  refine AQ.ret ?_
                  refine AQ.block_r ?_
                  refine AQ.then_r ?_
                  refine AQ.then_r ?_
                  refine AQ.block_r ?_
                  refine AQ.then_r ?_
                  refine AQ.dropN 1 ?_
                  refine AQ.dropN 1 ?_
                  refine AQ.dropN 1 ?_
                  refine AQ.dropN 1 ?_
                  refine AQ.eqH (H' := H) rfl ?_
                  exact AQ.done1 (Imm.le_refl _) Tryz.results26 rfl ⟨(by first | rfl | exact absurd rfl (by assumption)), rfl⟩
                · refine AQ.skip ?_
                  refine AQ.block_n ?_
                  refine AQ.then_n ?_
                  refine AQ.region ?_
                  refine AQ.move (.plain rfl) rfl rfl ?_
                  refine AQ.add (.plain rfl) rfl rfl rfl (i64_id (by omega) (by omega)) ?_
                  refine AQ.assign (.plain rfl) rfl rfl ?_
                  refine AQ.nil ?_
                  refine AQ.dropN 1 ?_
                  refine AQ.dropN 1 ?_
                  refine AQ.eqH (H' := _ :: _ :: H) rfl ?_
                  exact AQ.again (Imm.le_refl _) (s + 1) (by omega) (by omega) ⟨rfl, rfl, rfl, trivial⟩ rfl
      · refine AQ.exit ?_
        refine AQ.then_e ?_
        refine AQ.then_e ?_
        refine AQ.block_hit ?_
        refine AQ.then_n ?_
        refine AQ.seq ?_
        refine AQ.region ?_
        refine AQ.assign (.plain rfl) rfl rfl ?_
        refine AQ.nil ?_
        refine AQ.then_n ?_
        refine AQ.ret ?_
        refine AQ.dropN 1 ?_
        refine AQ.dropN 1 ?_
        refine AQ.eqH (H' := H) rfl ?_
        exact AQ.done1 (Imm.le_refl _) Tryz.results26 rfl ⟨(by first | rfl | exact absurd rfl (by assumption)), rfl⟩
end Go.Fx
set_option linter.unusedVariables false
set_option linter.unusedSimpArgs false
set_option maxRecDepth 100000
namespace Go.Fx
open Go Go.Proofs

theorem stripeBack (l : Layout) (o k : Int) (H : List HA) (y0 : l.May) (y1 : 0 ≤ o) (y2 : o ≤ 1099511627776) (y3 : 0 ≤ k) (y4 : k < l.o) : AC Tryz.prog 204 [.agg l.cells, I o, I k] (H) (fun r' H' => r' = (I (backB l o k)) ∧ H' = H) := by
  refine AC.enter Tryz.func204 rfl Tryz.ntmps204 rfl (fun I0 => ?_)
  obtain ⟨f1, f2, f3, f4, f5, f6, f7, f8⟩ := backFacts y0 y1 y2 y3 y4
  obtain ⟨q1, q2, q3, q4, q5, q6⟩ := y0
  have hin : (∀ n ∈ [o, k], inFar n) ∧ l.May := ⟨by intro n hn; simp only [List.mem_cons, List.mem_nil_iff, or_false] at hn; rcases hn with rfl | rfl <;> (unfold inFar; omega), ⟨q1, q2, q3, q4, q5, q6⟩⟩
  refine AQ.seq ?_
  refine AQ.region ?_
  refine AQ.boxA (.plain rfl) rfl rfl (fun b1 => ?_)
  refine AQ.assign (.plain rfl) rfl rfl ?_
  refine AQ.nil ?_
  refine AQ.then_n ?_
  refine AQ.seq ?_
  refine AQ.seq ?_
  refine AQ.region ?_
  refine AQ.loadvA (.plain rfl) rfl 0 rfl rfl ag37 rfl rfl ?_
  refine AQ.move (.plain rfl) rfl rfl ?_
  refine AQ.move (.plain rfl) rfl rfl ?_
  refine AQ.buildSlice (rows := [[_], [_]]) (.plain rfl) rfl Tryz.underlying38 el3 zo3 rfl rfl rfl (.one rfl (.val rfl) rfl rfl (.one rfl (.val rfl) rfl rfl .nil)) rfl rfl (by simp) (fun u2 => ?_)
  refine AQ.freeze 0 rfl (fun J3 hJ3 hp3 => ?_)
  refine AQ.as (t := 12) rfl hp3 ?_
  refine AQ.callf (.plain rfl) rfl rfl en203 (stripeMay l [o, k] _) ?_
  refine AQ.not_d (.plain rfl) rfl rfl ?_
  refine AQ.move (.plain rfl) rfl rfl ?_
  refine AQ.split (t := 15) rfl (fun h4 => ?_) (fun h4 => ?_)
  · refine AQ.off rfl rfl rfl rfl ?_
    refine AQ.off rfl rfl rfl rfl ?_
    refine AQ.off rfl rfl rfl rfl ?_
    refine AQ.off rfl rfl rfl rfl ?_
    refine AQ.pick_t (.plain rfl) rfl rfl rfl ?_
    refine AQ.nil ?_
    refine AQ.then_n ?_
    refine AQ.cond_t rfl ?_
    refine AQ.seq ?_
    refine AQ.region ?_
    refine AQ.assign (.plain rfl) rfl rfl ?_
    refine AQ.nil ?_
    refine AQ.then_n ?_
    refine AQ.ret ?_
    refine AQ.then_r ?_
    refine AQ.dropN 1 ?_
    refine AQ.eqH (H' := H) rfl ?_
    exact AQ.done1 hJ3 Tryz.results204 rfl ⟨(absurd hin (by assumption)), rfl⟩
  · refine AQ.move (.on rfl rfl rfl) rfl rfl ?_
    refine AQ.fieldv (.on rfl rfl rfl) rfl rfl fo37_2 rfl ?_
    refine AQ.loadv1 (.on rfl rfl rfl) rfl 0 rfl rfl ag3 rfl ?_
    refine AQ.geq (.on rfl rfl rfl) rfl rfl rfl ?_
    refine AQ.pick_f (.plain rfl) rfl rfl rfl ?_
    refine AQ.nil ?_
    refine AQ.then_n ?_
    refine AQ.cond_d rfl (fun h5 => ?_) (fun h5 => ?_)
    · refine AQ.seq ?_
      refine AQ.region ?_
      refine AQ.assign (.plain rfl) rfl rfl ?_
      refine AQ.nil ?_
      refine AQ.then_n ?_
      refine AQ.ret ?_
      refine AQ.then_r ?_
      refine AQ.dropN 1 ?_
      refine AQ.eqH (H' := H) rfl ?_
      exact AQ.done1 hJ3 Tryz.results204 rfl ⟨(absurd y4 (by omega)), rfl⟩
    · refine AQ.skip ?_
      refine AQ.then_n ?_
      refine AQ.seq ?_
      refine AQ.region ?_
      refine AQ.fieldv (.plain rfl) rfl rfl fo37_2 rfl ?_
      refine AQ.loadv1 (.plain rfl) rfl 0 rfl rfl ag3 rfl ?_
      refine AQ.fieldv (.plain rfl) rfl rfl fo37_0 rfl ?_
      refine AQ.loadv1 (.plain rfl) rfl 0 rfl rfl ag3 rfl ?_
      refine AQ.quo (.plain rfl) rfl rfl rfl (by omega) (tdiv_pos (by omega) (by omega) (by omega)) ?_
      refine AQ.assign (.plain rfl) rfl rfl ?_
      refine AQ.nil ?_
      refine AQ.then_n ?_
      refine AQ.seq ?_
      refine AQ.weaken (E' := [(0, _), (1, _), (2, _), (3, _), (6, _), (20, _), (7, _)]) ⟨rfl, rfl, rfl, rfl, rfl, rfl, rfl, trivial⟩ ?_
      refine AQ.draw (F0 := _) [.fix none none _] mixed rfl (
        .cons (.fix 26 [] [] [] _) (fun xs E' F Q' k => AQ.move (.plain rfl) rfl rfl (AQ.nil (k (0, undef)))) <|
        .cons (.fix 27 [] [] [] _) (fun xs E' F Q' k => AQ.fieldv (.plain rfl) rfl rfl fo37_1 rfl (AQ.nil (k (0, undef)))) <|
        .cons (.fix 28 [1] [1] [0] _) (fun xs E' F Q' k => AQ.loadv1 (.plain rfl) rfl 0 rfl rfl ag3 rfl (AQ.nil (k (0, undef)))) <|
        .cons (.fix 29 [0, 1, 2] [0, 2] [] _) (fun xs E' F Q' k => AQ.quo (.plain rfl) rfl rfl rfl (by omega) (tdiv_pos (by omega) (by omega) (by omega)) (AQ.nil (k (0, undef)))) <|
        .cons (.fix 30 [] [] [] _) (fun xs E' F Q' k => AQ.move (.plain rfl) rfl rfl (AQ.nil (k (0, undef)))) <|
        .cons (.fix 31 [0, 1, 2, 3, 4] [3, 4] [] _) (fun xs E' F Q' k => AQ.mul (.plain rfl) rfl rfl rfl (i64_id (by omega) (by omega)) (AQ.nil (k (0, undef)))) <|
        .cons (.fix 32 [] [] [] _) (fun xs E' F Q' k => AQ.move (.plain rfl) rfl rfl (AQ.nil (k (0, undef)))) <|
        .cons (.fix 33 [] [] [] _) (fun xs E' F Q' k => AQ.fieldv (.plain rfl) rfl rfl fo37_0 rfl (AQ.nil (k (0, undef)))) <|
        .cons (.fix 34 [7] [7] [0] _) (fun xs E' F Q' k => AQ.loadv1 (.plain rfl) rfl 0 rfl rfl ag3 rfl (AQ.nil (k (0, undef)))) <|
        .cons (.fix 35 [6, 7, 8] [6, 8] [] _) (fun xs E' F Q' k => AQ.quo (.plain rfl) rfl rfl rfl (by omega) (tdiv_pos (by omega) (by omega) (by omega)) (AQ.nil (k (0, undef)))) <|
        .cons (.fix 36 [0, 1, 2, 3, 4, 5, 6, 7, 8, 9] [5, 9] [] _) (fun xs E' F Q' k => AQ.add (.plain rfl) rfl rfl rfl (i64_id (by omega) (by omega)) (AQ.nil (k (0, undef)))) <|
        .cons (.fix 8 [0, 1, 2, 3, 4, 5, 6, 7, 8, 9, 10] [10] [] _) (fun xs E' F Q' k => AQ.assign (.plain rfl) rfl rfl (AQ.nil (k (0, undef)))) <|
        .nil) (by kernel_rfl) (by kernel_rfl) (fun x6 => ?_)
      refine AQ.then_n ?_
      refine AQ.seq ?_
      refine AQ.weaken (E' := [(0, _), (1, _), (2, _), (3, _), (20, _), (7, _), (8, _)]) ⟨rfl, rfl, rfl, rfl, rfl, rfl, rfl, trivial⟩ ?_
      refine AQ.draw (F0 := _) [.fix none none _] mixed rfl (
        .cons (.fix 37 [] [] [] _) (fun xs E' F Q' k => AQ.move (.plain rfl) rfl rfl (AQ.nil (k (0, undef)))) <|
        .cons (.fix 38 [] [] [] _) (fun xs E' F Q' k => AQ.fieldv (.plain rfl) rfl rfl fo37_1 rfl (AQ.nil (k (0, undef)))) <|
        .cons (.fix 39 [1] [1] [0] _) (fun xs E' F Q' k => AQ.loadv1 (.plain rfl) rfl 0 rfl rfl ag3 rfl (AQ.nil (k (0, undef)))) <|
        .cons (.fix 40 [0, 1, 2] [0, 2] [] _) (fun xs E' F Q' k => AQ.mul (.plain rfl) rfl rfl rfl (i64_id (by omega) (by omega)) (AQ.nil (k (0, undef)))) <|
        .cons (.fix 41 [] [] [] _) (fun xs E' F Q' k => AQ.move (.plain rfl) rfl rfl (AQ.nil (k (0, undef)))) <|
        .cons (.fix 42 [] [] [] _) (fun xs E' F Q' k => AQ.fieldv (.plain rfl) rfl rfl fo37_1 rfl (AQ.nil (k (0, undef)))) <|
        .cons (.fix 43 [5] [5] [0] _) (fun xs E' F Q' k => AQ.loadv1 (.plain rfl) rfl 0 rfl rfl ag3 rfl (AQ.nil (k (0, undef)))) <|
        .cons (.fix 44 [4, 5, 6] [4, 6] [] _) (fun xs E' F Q' k => AQ.rem (.plain rfl) rfl rfl rfl (by omega) (tmod_pos (by omega)) (AQ.nil (k (0, undef)))) <|
        .cons (.fix 45 [0, 1, 2, 3, 4, 5, 6, 7] [3, 7] [] _) (fun xs E' F Q' k => AQ.add (.plain rfl) rfl rfl rfl (i64_id (by omega) (by omega)) (AQ.nil (k (0, undef)))) <|
        .cons (.fix 46 [] [] [] _) (fun xs E' F Q' k => AQ.fieldv (.plain rfl) rfl rfl fo37_0 rfl (AQ.nil (k (0, undef)))) <|
        .cons (.fix 47 [9] [9] [0] _) (fun xs E' F Q' k => AQ.loadv1 (.plain rfl) rfl 0 rfl rfl ag3 rfl (AQ.nil (k (0, undef)))) <|
        .cons (.fix 48 [0, 1, 2, 3, 4, 5, 6, 7, 8, 9, 10] [8, 10] [] _) (fun xs E' F Q' k => AQ.mul (.plain rfl) rfl rfl rfl (i64_id (by omega) (by omega)) (AQ.nil (k (0, undef)))) <|
        .cons (.fix 49 [] [] [] _) (fun xs E' F Q' k => AQ.move (.plain rfl) rfl rfl (AQ.nil (k (0, undef)))) <|
        .cons (.fix 50 [] [] [] _) (fun xs E' F Q' k => AQ.fieldv (.plain rfl) rfl rfl fo37_0 rfl (AQ.nil (k (0, undef)))) <|
        .cons (.fix 51 [13] [13] [0] _) (fun xs E' F Q' k => AQ.loadv1 (.plain rfl) rfl 0 rfl rfl ag3 rfl (AQ.nil (k (0, undef)))) <|
        .cons (.fix 52 [12, 13, 14] [12, 14] [] _) (fun xs E' F Q' k => AQ.rem (.plain rfl) rfl rfl rfl (by omega) (tmod_pos (by omega)) (AQ.nil (k (0, undef)))) <|
        .cons (.fix 53 [0, 1, 2, 3, 4, 5, 6, 7, 8, 9, 10, 11, 12, 13, 14, 15] [11, 15] [] _) (fun xs E' F Q' k => AQ.add (.plain rfl) rfl rfl rfl (i64_id (by omega) (by omega)) (AQ.nil (k (0, undef)))) <|
        .cons (.fix 6 [0, 1, 2, 3, 4, 5, 6, 7, 8, 9, 10, 11, 12, 13, 14, 15, 16] [16] [] _) (fun xs E' F Q' k => AQ.assign (.plain rfl) rfl rfl (AQ.nil (k (0, undef)))) <|
        .nil) (by kernel_rfl) (by kernel_rfl) (fun x7 => ?_)
      refine AQ.then_n ?_
      refine AQ.ret ?_
      refine AQ.dropN 1 ?_
      refine AQ.eqH (H' := H) rfl ?_
      exact AQ.done1 hJ3 Tryz.results204 rfl ⟨rfl, rfl⟩
theorem stripeRoom (l : Layout) (o size : Int) (H : List HA)  : AC Tryz.prog 132 [.agg l.cells, I o, I size] (H) (fun r' H' => r' = (I (roomN l o size)) ∧ H' = H) := by
  refine AC.enter Tryz.func132 rfl Tryz.ntmps132 rfl (fun I0 => ?_)
  refine AQ.seq ?_
  refine AQ.region ?_
  refine AQ.boxA (.plain rfl) rfl rfl (fun b1 => ?_)
  refine AQ.assign (.plain rfl) rfl rfl ?_
  refine AQ.nil ?_
  refine AQ.then_n ?_
  refine AQ.seq ?_
  refine AQ.seq ?_
  refine AQ.region ?_
  refine AQ.loadvA (.plain rfl) rfl 0 rfl rfl ag37 rfl rfl ?_
  refine AQ.move (.plain rfl) rfl rfl ?_
  refine AQ.move (.plain rfl) rfl rfl ?_
  refine AQ.buildSlice (rows := [[_], [_]]) (.plain rfl) rfl Tryz.underlying38 el3 zo3 rfl rfl rfl (.one rfl (.val rfl) rfl rfl (.one rfl (.val rfl) rfl rfl .nil)) rfl rfl (by simp) (fun u2 => ?_)
  refine AQ.freeze 0 rfl (fun J3 hJ3 hp3 => ?_)
  refine AQ.as (t := 13) rfl hp3 ?_
  refine AQ.callf (.plain rfl) rfl rfl en203 (stripeMay l [o, size] _) ?_
  refine AQ.not_d (.plain rfl) rfl rfl ?_
  refine AQ.move (.plain rfl) rfl rfl ?_
  refine AQ.split (t := 16) rfl (fun h4 => ?_) (fun h4 => ?_)
  · refine AQ.off rfl rfl rfl rfl ?_
    refine AQ.off rfl rfl rfl rfl ?_
    refine AQ.pick_t (.plain rfl) rfl rfl rfl ?_
    refine AQ.nil ?_
    refine AQ.then_n ?_
    refine AQ.cond_t rfl ?_
    refine AQ.seq ?_
    refine AQ.region ?_
    refine AQ.assign (.plain rfl) rfl rfl ?_
    refine AQ.nil ?_
    refine AQ.then_n ?_
    refine AQ.ret ?_
    refine AQ.then_r ?_
    refine AQ.dropN 1 ?_
    refine AQ.eqH (H' := H) rfl ?_
    exact AQ.done1 hJ3 Tryz.results132 rfl ⟨(I_c (by unfold roomN; first | exact if_f (fun hh => by first | omega | exact absurd (show (∀ n ∈ [o, size], inFar n) ∧ l.May from ⟨by intro n hn; simp only [List.mem_cons, List.mem_nil_iff, or_false] at hn; rcases hn with rfl | rfl; exact hh.1; exact hh.2.1, hh.2.2.1⟩) (by assumption)) | exact if_t_eq ⟨hio, his, hmay, by omega⟩ (by rw [show s = (l.o / l.u).toNat by have h2 : ¬ (s : Int) < l.o / l.u := fun hlt => absurd (show (s : Int) * l.u < l.o by rw [← hom]; exact Int.mul_lt_mul_of_pos_right hlt (by omega)) (by assumption); omega]))), rfl⟩
  · refine AQ.move (.on rfl rfl rfl) rfl rfl ?_
    refine AQ.gtr (.on rfl rfl rfl) rfl rfl rfl ?_
    refine AQ.pick_f (.plain rfl) rfl rfl rfl ?_
    refine AQ.nil ?_
    refine AQ.then_n ?_
    refine AQ.cond_d rfl (fun h5 => ?_) (fun h5 => ?_)
    · refine AQ.seq ?_
      refine AQ.region ?_
      refine AQ.assign (.plain rfl) rfl rfl ?_
      refine AQ.nil ?_
      refine AQ.then_n ?_
      refine AQ.ret ?_
      refine AQ.then_r ?_
      refine AQ.dropN 1 ?_
      refine AQ.eqH (H' := H) rfl ?_
      exact AQ.done1 hJ3 Tryz.results132 rfl ⟨(I_c (by unfold roomN; first | exact if_f (fun hh => by first | omega | exact absurd (show (∀ n ∈ [o, size], inFar n) ∧ l.May from ⟨by intro n hn; simp only [List.mem_cons, List.mem_nil_iff, or_false] at hn; rcases hn with rfl | rfl; exact hh.1; exact hh.2.1, hh.2.2.1⟩) (by assumption)) | exact if_t_eq ⟨hio, his, hmay, by omega⟩ (by rw [show s = (l.o / l.u).toNat by have h2 : ¬ (s : Int) < l.o / l.u := fun hlt => absurd (show (s : Int) * l.u < l.o by rw [← hom]; exact Int.mul_lt_mul_of_pos_right hlt (by omega)) (by assumption); omega]))), rfl⟩
    · refine AQ.skip ?_
      refine AQ.then_n ?_
      refine AQ.seq ?_
      refine AQ.region ?_
      refine AQ.assign (.plain rfl) rfl rfl ?_
      refine AQ.nil ?_
      refine AQ.then_n ?_
      refine AQ.seq ?_
      refine AQ.seq ?_
      refine AQ.region ?_
      refine AQ.assign (.plain rfl) rfl rfl ?_
      refine AQ.nil ?_
      refine AQ.then_n ?_
      refine AQ.block ?_
      have hm : (∀ n ∈ [o, size], inFar n) ∧ l.May := Decidable.not_not.1 (by assumption)
      have hmay := hm.2
      have hio := hm.1 o (by simp)
      have his := hm.1 size (by simp)
      unfold inFar at hio his
      have hef := (placeFacts hmay (off := 0) (by omega)).each
      have hom := obj_mul hmay
      have hmay2 := hmay
      obtain ⟨q1, q2, q3, q4, q5, q6⟩ := hmay2
      refine AQ.eqv (t := 8) (u := .int .i64 (((0 : Nat) : Int) * l.u)) rfl (by simp) ?_
      refine AQ.loop (σ := Nat) (fun s => [(1, I o), (2, I size), (3, .val (.pointer (some ⟨b1, 0, none⟩))), (7, I (roomP l o size s)), (8, I ((s : Int) * l.u))]) (fun s => .box b1 37 l.cells :: H) (fun s => (s : Int) ≤ l.o / l.u) (fun s => (l.o / l.u).toNat - s) 0 (by omega) ⟨rfl, rfl, rfl, rfl, rfl, trivial⟩ rfl (fun s hs => ?_)
      refine AQ.seq ?_
      refine AQ.seq ?_
      refine AQ.region ?_
      refine AQ.move (.plain rfl) rfl rfl ?_
      refine AQ.fieldv (.plain rfl) rfl rfl fo37_2 rfl ?_
      refine AQ.loadv1 (.plain rfl) rfl 0 rfl rfl ag3 rfl ?_
      refine AQ.lss (.plain rfl) rfl rfl rfl ?_
      refine AQ.nil ?_
      refine AQ.then_n ?_
      refine AQ.cond_d rfl (fun h6 => ?_) (fun h6 => ?_)
      · refine AQ.skip ?_
        refine AQ.then_n ?_
        refine AQ.seq ?_
        refine AQ.block ?_
        refine AQ.seq ?_
        refine AQ.region ?_
        have hj1 : (s : Int) < l.o / l.u := Int.lt_of_mul_lt_mul_right (by rw [hom]; assumption) (by omega)
        have hsu := mul_le_mul' (a := (s : Int)) (b := l.u) (c := 64) (d := 64) (by omega) (by omega) (by omega) (by omega)
        have hbk := (place_back hmay (o := o) (k := (s : Int) * l.u) (by omega) (by omega) (by omega)).1
        refine AQ.loadvA (.plain rfl) rfl 0 rfl rfl ag37 rfl rfl ?_
        refine AQ.move (.plain rfl) rfl rfl ?_
        refine AQ.move (.plain rfl) rfl rfl ?_
        refine AQ.callf (.plain rfl) rfl rfl en204 (stripeBack l o ((s : Int) * l.u) _ hmay (by omega) (by omega) (by omega) (by omega)) ?_
        refine AQ.assign (.plain rfl) rfl rfl ?_
        refine AQ.nil ?_
        refine AQ.then_n ?_
        refine AQ.seq ?_
        refine AQ.region ?_
        refine AQ.move (.plain rfl) rfl rfl ?_
        refine AQ.move (.plain rfl) rfl rfl ?_
        refine AQ.lss (.plain rfl) rfl rfl rfl ?_
        refine AQ.nil ?_
        refine AQ.then_n ?_
        refine AQ.cond_d rfl (fun h7 => ?_) (fun h7 => ?_)
        · refine AQ.region ?_
          refine AQ.move (.plain rfl) rfl rfl ?_
          refine AQ.fieldv (.plain rfl) rfl rfl fo37_0 rfl ?_
          refine AQ.loadv1 (.plain rfl) rfl 0 rfl rfl ag3 rfl ?_
          refine AQ.move (.plain rfl) rfl rfl ?_
          refine AQ.move (.plain rfl) rfl rfl ?_
          refine AQ.sub (.plain rfl) rfl rfl rfl (i64_id (by omega) (by omega)) ?_
          refine AQ.min2 (.plain rfl) rfl rfl rfl ?_
          refine AQ.add (.plain rfl) rfl rfl rfl (i64_id (by omega) (by omega)) ?_
          refine AQ.assign (.plain rfl) rfl rfl ?_
          refine AQ.nil ?_
          refine AQ.block_n ?_
          refine AQ.then_n ?_
          refine AQ.region ?_
          refine AQ.move (.plain rfl) rfl rfl ?_
          refine AQ.fieldv (.plain rfl) rfl rfl fo37_0 rfl ?_
          refine AQ.loadv1 (.plain rfl) rfl 0 rfl rfl ag3 rfl ?_
          refine AQ.add (.plain rfl) rfl rfl rfl (i64_id (by omega) (by omega)) ?_
          refine AQ.assign (.plain rfl) rfl rfl ?_
          refine AQ.nil ?_
          exact AQ.again (Imm.le_refl _) (s + 1) (by omega) (by omega) ⟨rfl, rfl, rfl, by first | (rw [roomP, if_pos (by assumption)]; rfl) | (rw [roomP, if_neg (by assumption)]; rfl), by rw [show ((s + 1 : Nat) : Int) * l.u = (s : Int) * l.u + l.u by rw [Int.natCast_add, Int.add_mul]; simp]; rfl, trivial⟩ rfl
        · refine AQ.skip ?_
          refine AQ.block_n ?_
          refine AQ.then_n ?_
          refine AQ.region ?_
          refine AQ.move (.plain rfl) rfl rfl ?_
          refine AQ.fieldv (.plain rfl) rfl rfl fo37_0 rfl ?_
          refine AQ.loadv1 (.plain rfl) rfl 0 rfl rfl ag3 rfl ?_
          refine AQ.add (.plain rfl) rfl rfl rfl (i64_id (by omega) (by omega)) ?_
          refine AQ.assign (.plain rfl) rfl rfl ?_
          refine AQ.nil ?_
          exact AQ.again (Imm.le_refl _) (s + 1) (by omega) (by omega) ⟨rfl, rfl, rfl, by first | (rw [roomP, if_pos (by assumption)]; rfl) | (rw [roomP, if_neg (by assumption)]; rfl), by rw [show ((s + 1 : Nat) : Int) * l.u = (s : Int) * l.u + l.u by rw [Int.natCast_add, Int.add_mul]; simp]; rfl, trivial⟩ rfl
      · refine AQ.exit ?_
        refine AQ.then_e ?_
        refine AQ.then_e ?_
        refine AQ.block_hit ?_
        refine AQ.then_n ?_
        refine AQ.seq ?_
        refine AQ.region ?_
        refine AQ.move (.plain rfl) rfl rfl ?_
        refine AQ.assign (.plain rfl) rfl rfl ?_
        refine AQ.nil ?_
        refine AQ.then_n ?_
        refine AQ.ret ?_
        refine AQ.dropN 1 ?_
        refine AQ.eqH (H' := H) rfl ?_
        exact AQ.done1 hJ3 Tryz.results132 rfl ⟨(I_c (by unfold roomN; first | exact if_f (fun hh => by first | omega | exact absurd (show (∀ n ∈ [o, size], inFar n) ∧ l.May from ⟨by intro n hn; simp only [List.mem_cons, List.mem_nil_iff, or_false] at hn; rcases hn with rfl | rfl; exact hh.1; exact hh.2.1, hh.2.2.1⟩) (by assumption)) | exact if_t_eq ⟨hio, his, hmay, by omega⟩ (by rw [show s = (l.o / l.u).toNat by have h2 : ¬ (s : Int) < l.o / l.u := fun hlt => absurd (show (s : Int) * l.u < l.o by rw [← hom]; exact Int.mul_lt_mul_of_pos_right hlt (by omega)) (by assumption); omega]))), rfl⟩
end Go.Fx
set_option linter.unusedVariables false
set_option linter.unusedSimpArgs false
set_option maxRecDepth 100000
namespace Go.Fx
open Go Go.Proofs
theorem rows_last {α : Type} (F : α → List AV) (init : List α) (q : α) : ((init ++ [q]).map F)[(((init ++ [q]).length : Int) - 1).toNat]? = some (F q) := by
  rw [List.length_append, List.length_singleton, show (((init.length + 1 : Nat) : Int) - 1).toNat = init.length by omega, List.map_append]
  rw [List.getElem?_append_right (by simp)]
  simp
theorem rows_set_last {α : Type} (F : α → List AV) (init : List α) (q : α) (r : List AV) : ((init ++ [q]).map F).set (((init ++ [q]).length : Int) - 1).toNat r = init.map F ++ [r] := by
  rw [List.length_append, List.length_singleton, show (((init.length + 1 : Nat) : Int) - 1).toNat = init.length by omega, List.map_append, List.set_append_right _ _ (by simp)]
  simp

theorem piecesJoin (b : Nat) (v : Value) (out : List Piece) (p : Piece) (H : List HA) (y0 : out.length ≤ 10000) (y1 : ∀ q ∈ out, -1000000000000000 ≤ q.off ∧ q.off ≤ 1000000000000000 ∧ -100000 ≤ q.len ∧ q.len ≤ 100000) (y2 : -100000 ≤ p.len ∧ p.len ≤ 100000) : AC Tryz.prog 222 [.agg p.cells, .val (.pointer (some ⟨b, 0, none⟩))] ((.box b 174 [.val v] :: .osl v 183 4 (pieceRows out) :: H)) (fun r H' => ∃ v', r = .tup [] ∧ H' = .box b 174 [.val v'] :: .osl v' 183 4 (pieceRows (joinP out p)) :: H) := by
  refine AC.enter Tryz.func222 rfl Tryz.ntmps222 rfl (fun I0 => ?_)
  refine AQ.seq ?_
  refine AQ.region ?_
  refine AQ.boxA (.plain rfl) rfl rfl (fun b1 => ?_)
  refine AQ.nil ?_
  refine AQ.then_n ?_
  refine AQ.seq ?_
  refine AQ.seq ?_
  refine AQ.region ?_
  refine AQ.loadv1 (.plain rfl) rfl 1 rfl rfl ag174 rfl ?_
  refine AQ.lenz (.plain rfl) (.osl rfl 2 rfl) rfl Tryz.underlying174 (by first | (simp only [List.length_map]; rfl) | rfl) ?_
  refine AQ.sub (.plain rfl) rfl rfl rfl (i64_id (by omega) (by omega)) ?_
  refine AQ.assign (.plain rfl) rfl rfl ?_
  refine AQ.nil ?_
  refine AQ.then_n ?_
  refine AQ.seq ?_
  have hc : out = [] ∨ ∃ init q, out = init ++ [q] := (by rcases List.eq_nil_or_concat out with h | ⟨i, q, h⟩; exact .inl h; exact .inr ⟨i, q, by rw [h, List.concat_eq_append]⟩)
  have hc4 : out = [] ∨ (∃ init q, out = init ++ [q] ∧ ¬ q.o = p.o) ∨ (∃ init q, out = init ++ [q] ∧ q.o = p.o ∧ ¬ q.off + q.len = p.off) ∨ ∃ init q, out = init ++ [q] ∧ q.o = p.o ∧ q.off + q.len = p.off := (by rcases hc with h | ⟨i, q, h⟩; exact .inl h; by_cases h1 : q.o = p.o; by_cases h2 : q.off + q.len = p.off; exact .inr (.inr (.inr ⟨i, q, h, h1, h2⟩)); exact .inr (.inr (.inl ⟨i, q, h, h1, h2⟩)); exact .inr (.inl ⟨i, q, h, h1⟩))
  clear hc
  rcases hc4 with hout | ⟨init, q, hout, hq1⟩ | ⟨init, q, hout, hq1, hq2⟩ | ⟨init, q, hout, hq1, hq2⟩
  · subst hout
    refine AQ.weaken (E' := [(0, _), (1, _), (2, _), (3, _)]) ⟨rfl, rfl, rfl, rfl, trivial⟩ ?_
    refine AQ.draw (F0 := _) [.fix none none _, .fix none none _, .fix none none _] mixed rfl (
      .cons (.fix 7 [] [] [] _) (fun xs E' F Q' k => AQ.move (.plain rfl) rfl rfl (AQ.nil (k (0, undef)))) <|
      .cons (.fix 8 [0] [0] [] _) (fun xs E' F Q' k => AQ.geq (.plain rfl) rfl rfl rfl (AQ.cgv (dec_f (by simp)) (AQ.nil (k (0, undef))))) <|
      .cons (.fix 9 [0, 1] [1] [] _) (fun xs E' F Q' k => AQ.move (.plain rfl) rfl rfl (AQ.nil (k (0, undef)))) <|
      .cons (.fix 10 [0, 1, 2] [2] [] _) (fun xs E' F Q' k => AQ.off rfl rfl rfl rfl (AQ.nil (k (0, undef)))) <|
      .cons (.fix 11 [0, 1, 2] [2] [] _) (fun xs E' F Q' k => AQ.off rfl rfl rfl rfl (AQ.nil (k (0, undef)))) <|
      .cons (.fix 12 [0, 1, 2, 3, 4] [2] [] _) (fun xs E' F Q' k => AQ.off rfl rfl rfl rfl (AQ.nil (k (0, undef)))) <|
      .cons (.fix 13 [0, 1, 2, 3, 4, 5] [2] [] _) (fun xs E' F Q' k => AQ.off rfl rfl rfl rfl (AQ.nil (k (0, undef)))) <|
      .cons (.fix 14 [0, 1, 2, 3, 4, 5, 6] [2] [] _) (fun xs E' F Q' k => AQ.off rfl rfl rfl rfl (AQ.nil (k (0, undef)))) <|
      .cons (.fix 15 [0, 1, 2] [2] [] _) (fun xs E' F Q' k => AQ.off rfl rfl rfl rfl (AQ.nil (k (0, undef)))) <|
      .cons (.fix 16 [0, 1, 2, 8] [2] [] _) (fun xs E' F Q' k => AQ.off rfl rfl rfl rfl (AQ.nil (k (0, undef)))) <|
      .cons (.fix 17 [0, 1, 2, 3, 4, 5, 6, 7, 8, 9] [2] [] _) (fun xs E' F Q' k => AQ.off rfl rfl rfl rfl (AQ.nil (k (0, undef)))) <|
      .cons (.fix 18 [0, 1, 2, 3, 4, 5, 6, 7, 8, 9, 10] [2, 10] [] _) (fun xs E' F Q' k => AQ.pick_f (.plain rfl) rfl rfl rfl (AQ.nil (k (0, undef)))) <|
      .cons (.fix 19 [0, 1, 2, 3, 4, 5, 6, 7, 8, 9, 10, 11] [11] [] _) (fun xs E' F Q' k => AQ.move (.plain rfl) rfl rfl (AQ.nil (k (0, undef)))) <|
      .cons (.fix 20 [0, 1, 2, 3, 4, 5, 6, 7, 8, 9, 10, 11, 12] [12] [] _) (fun xs E' F Q' k => AQ.off rfl rfl rfl rfl (AQ.nil (k (0, undef)))) <|
      .cons (.fix 21 [0, 1, 2, 3, 4, 5, 6, 7, 8, 9, 10, 11, 12] [12] [] _) (fun xs E' F Q' k => AQ.off rfl rfl rfl rfl (AQ.nil (k (0, undef)))) <|
      .cons (.fix 22 [0, 1, 2, 3, 4, 5, 6, 7, 8, 9, 10, 11, 12, 13, 14] [12] [] _) (fun xs E' F Q' k => AQ.off rfl rfl rfl rfl (AQ.nil (k (0, undef)))) <|
      .cons (.fix 23 [0, 1, 2, 3, 4, 5, 6, 7, 8, 9, 10, 11, 12, 13, 14, 15] [12] [] _) (fun xs E' F Q' k => AQ.off rfl rfl rfl rfl (AQ.nil (k (0, undef)))) <|
      .cons (.fix 24 [0, 1, 2, 3, 4, 5, 6, 7, 8, 9, 10, 11, 12, 13, 14, 15, 16] [12] [] _) (fun xs E' F Q' k => AQ.off rfl rfl rfl rfl (AQ.nil (k (0, undef)))) <|
      .cons (.fix 25 [0, 1, 2, 3, 4, 5, 6, 7, 8, 9, 10, 11, 12] [12] [] _) (fun xs E' F Q' k => AQ.off rfl rfl rfl rfl (AQ.nil (k (0, undef)))) <|
      .cons (.fix 26 [0, 1, 2, 3, 4, 5, 6, 7, 8, 9, 10, 11, 12] [12] [] _) (fun xs E' F Q' k => AQ.off rfl rfl rfl rfl (AQ.nil (k (0, undef)))) <|
      .cons (.fix 27 [0, 1, 2, 3, 4, 5, 6, 7, 8, 9, 10, 11, 12, 18, 19] [12] [] _) (fun xs E' F Q' k => AQ.off rfl rfl rfl rfl (AQ.nil (k (0, undef)))) <|
      .cons (.fix 28 [0, 1, 2, 3, 4, 5, 6, 7, 8, 9, 10, 11, 12, 18, 19, 20] [12] [] _) (fun xs E' F Q' k => AQ.off rfl rfl rfl rfl (AQ.nil (k (0, undef)))) <|
      .cons (.fix 29 [0, 1, 2, 3, 4, 5, 6, 7, 8, 9, 10, 11, 12, 18, 19, 20, 21] [12] [] _) (fun xs E' F Q' k => AQ.off rfl rfl rfl rfl (AQ.nil (k (0, undef)))) <|
      .cons (.fix 30 [0, 1, 2, 3, 4, 5, 6, 7, 8, 9, 10, 11, 12, 13, 14, 15, 16, 17, 18, 19, 20, 21, 22] [12] [] _) (fun xs E' F Q' k => AQ.off rfl rfl rfl rfl (AQ.nil (k (0, undef)))) <|
      .cons (.fix 31 [0, 1, 2, 3, 4, 5, 6, 7, 8, 9, 10, 11, 12] [12] [] _) (fun xs E' F Q' k => AQ.off rfl rfl rfl rfl (AQ.nil (k (0, undef)))) <|
      .cons (.fix 32 [0, 1, 2, 3, 4, 5, 6, 7, 8, 9, 10, 11, 12, 24] [12] [] _) (fun xs E' F Q' k => AQ.off rfl rfl rfl rfl (AQ.nil (k (0, undef)))) <|
      .cons (.fix 33 [0, 1, 2, 3, 4, 5, 6, 7, 8, 9, 10, 11, 12, 13, 14, 15, 16, 17, 18, 19, 20, 21, 22, 23, 24, 25] [12] [] _) (fun xs E' F Q' k => AQ.off rfl rfl rfl rfl (AQ.nil (k (0, undef)))) <|
      .cons (.fix 34 [0, 1, 2, 3, 4, 5, 6, 7, 8, 9, 10, 11, 12, 13, 14, 15, 16, 17, 18, 19, 20, 21, 22, 23, 24, 25, 26] [12, 26] [] _) (fun xs E' F Q' k => AQ.pick_f (.plain rfl) rfl rfl rfl (AQ.nil (k (0, undef)))) <|
      .nil) (by kernel_rfl) (by kernel_rfl) (fun x2 => ?_)
    refine AQ.then_n ?_
    refine AQ.cond_f rfl ?_
    refine AQ.skip ?_
    refine AQ.then_n ?_
    refine AQ.region ?_
    refine AQ.loadv1 (.plain rfl) rfl 1 rfl rfl ag174 rfl ?_
    refine AQ.loadvA (.plain rfl) rfl 0 rfl rfl ag183 rfl rfl ?_
    refine AQ.buildSlice (rows := [[_, _, _, _]]) (.plain rfl) rfl Tryz.underlying174 el183 zo183 rfl rfl rfl (.agg rfl rfl rfl .nil) rfl rfl (by simp) (fun u3 => ?_)
    refine AQ.append (.plain rfl) rfl 3 rfl (.osl rfl 0 rfl) rfl Tryz.underlying174 el183 rfl rfl (by simp only [List.length_cons, List.length_nil, List.length_map, List.length_append, List.length_range]; omega) (fun v4 => ?_)
    try simp only [List.set_cons_zero, List.set_cons_succ]
    refine AQ.oslOne 3 rfl (fun ho5 => ?_)
    refine AQ.storev1 (.plain rfl) rfl 2 rfl rfl (.val ho5) ag174 rfl ?_
    try simp only [List.set_cons_zero, List.set_cons_succ]
    refine AQ.nil ?_
    refine AQ.oslR 3 rfl (show _ = pieceRows (joinP [] p) from rfl) ?_
    try simp only [List.set_cons_zero, List.set_cons_succ]
    refine AQ.dropN 1 ?_
    refine AQ.dropN 1 ?_
    refine AQ.eqH (H' := _ :: _ :: H) rfl ?_
    exact AQ.doneN (ts := []) (Imm.le_refl _) Tryz.results222 rfl rfl ⟨_, rfl, rfl⟩   -- !! body ends without ret
  · subst hout
    have hql := y1 q (by simp)
    simp only [List.length_append, List.length_singleton] at y0
    refine AQ.weaken (E' := [(0, _), (1, _), (2, _), (3, _)]) ⟨rfl, rfl, rfl, rfl, trivial⟩ ?_
    refine AQ.draw (F0 := _) [.fix none none _, .fix none none _, .fix none none _] mixed rfl (
      .cons (.fix 7 [] [] [] _) (fun xs E' F Q' k => AQ.move (.plain rfl) rfl rfl (AQ.nil (k (0, undef)))) <|
      .cons (.fix 8 [0] [0] [] _) (fun xs E' F Q' k => AQ.geq (.plain rfl) rfl rfl rfl (AQ.cgv (dec_t (by simp)) (AQ.nil (k (0, undef))))) <|
      .cons (.fix 9 [0, 1] [1] [] _) (fun xs E' F Q' k => AQ.move (.plain rfl) rfl rfl (AQ.nil (k (0, undef)))) <|
      .cons (.fix 10 [0, 1, 2] [2] [1] _) (fun xs E' F Q' k => AQ.loadv1 (.on rfl rfl rfl) rfl 0 rfl rfl ag174 rfl (AQ.nil (k (0, undef)))) <|
      .cons (.fix 11 [0, 1, 2] [2] [] _) (fun xs E' F Q' k => AQ.move (.on rfl rfl rfl) rfl rfl (AQ.nil (k (0, undef)))) <|
      .cons (.fix 12 [0, 1, 2, 3, 4] [2, 3, 4] [2] _) (fun xs E' F Q' k => AQ.indexo (.on rfl rfl rfl) rfl 0 rfl rfl rfl Tryz.underlying174 ag183 (by simp only [List.length_append, List.length_map, List.length_singleton]; omega) (by simp only [List.length_append, List.length_map, List.length_singleton]; omega) (AQ.nil (k (0, undef)))) <|
      .cons (.fix 13 [0, 1, 2, 3, 4, 5] [2, 5] [] _) (fun xs E' F Q' k => AQ.fieldo (.on rfl rfl rfl) rfl rfl fo183_0 rfl (AQ.nil (k (0, undef)))) <|
      .cons (.fix 14 [0, 1, 2, 3, 4, 5, 6] [2, 6] [2] _) (fun xs E' F Q' k => AQ.loado1 (.on rfl rfl rfl) rfl 0 rfl _ 0 rfl (rows_last _ _ _) rfl rfl ag3  (AQ.nil (k (0, undef)))) <|
      .cons (.fix 15 [0, 1, 2] [2] [] _) (fun xs E' F Q' k => AQ.fieldv (.on rfl rfl rfl) rfl rfl fo183_0 rfl (AQ.nil (k (0, undef)))) <|
      .cons (.fix 16 [0, 1, 2, 8] [2, 8] [0] _) (fun xs E' F Q' k => AQ.loadv1 (.on rfl rfl rfl) rfl 0 rfl rfl ag3 rfl (AQ.nil (k (0, undef)))) <|
      .cons (.fix 17 [0, 1, 2, 3, 4, 5, 6, 7, 8, 9] [2, 7, 9] [] _) (fun xs E' F Q' k => AQ.eql (.on rfl rfl rfl) rfl rfl rfl (AQ.cgv (dec_f hq1) (AQ.nil (k (0, undef))))) <|
      .cons (.fix 18 [0, 1, 2, 3, 4, 5, 6, 7, 8, 9, 10] [2, 10] [] _) (fun xs E' F Q' k => AQ.pick_t (.plain rfl) rfl rfl rfl (AQ.nil (k (0, undef)))) <|
      .cons (.fix 19 [0, 1, 2, 3, 4, 5, 6, 7, 8, 9, 10, 11] [11] [] _) (fun xs E' F Q' k => AQ.move (.plain rfl) rfl rfl (AQ.nil (k (0, undef)))) <|
      .cons (.fix 20 [0, 1, 2, 3, 4, 5, 6, 7, 8, 9, 10, 11, 12] [12] [] _) (fun xs E' F Q' k => AQ.off rfl rfl rfl rfl (AQ.nil (k (0, undef)))) <|
      .cons (.fix 21 [0, 1, 2, 3, 4, 5, 6, 7, 8, 9, 10, 11, 12] [12] [] _) (fun xs E' F Q' k => AQ.off rfl rfl rfl rfl (AQ.nil (k (0, undef)))) <|
      .cons (.fix 22 [0, 1, 2, 3, 4, 5, 6, 7, 8, 9, 10, 11, 12, 13, 14] [12] [] _) (fun xs E' F Q' k => AQ.off rfl rfl rfl rfl (AQ.nil (k (0, undef)))) <|
      .cons (.fix 23 [0, 1, 2, 3, 4, 5, 6, 7, 8, 9, 10, 11, 12, 13, 14, 15] [12] [] _) (fun xs E' F Q' k => AQ.off rfl rfl rfl rfl (AQ.nil (k (0, undef)))) <|
      .cons (.fix 24 [0, 1, 2, 3, 4, 5, 6, 7, 8, 9, 10, 11, 12, 13, 14, 15, 16] [12] [] _) (fun xs E' F Q' k => AQ.off rfl rfl rfl rfl (AQ.nil (k (0, undef)))) <|
      .cons (.fix 25 [0, 1, 2, 3, 4, 5, 6, 7, 8, 9, 10, 11, 12] [12] [] _) (fun xs E' F Q' k => AQ.off rfl rfl rfl rfl (AQ.nil (k (0, undef)))) <|
      .cons (.fix 26 [0, 1, 2, 3, 4, 5, 6, 7, 8, 9, 10, 11, 12] [12] [] _) (fun xs E' F Q' k => AQ.off rfl rfl rfl rfl (AQ.nil (k (0, undef)))) <|
      .cons (.fix 27 [0, 1, 2, 3, 4, 5, 6, 7, 8, 9, 10, 11, 12, 18, 19] [12] [] _) (fun xs E' F Q' k => AQ.off rfl rfl rfl rfl (AQ.nil (k (0, undef)))) <|
      .cons (.fix 28 [0, 1, 2, 3, 4, 5, 6, 7, 8, 9, 10, 11, 12, 18, 19, 20] [12] [] _) (fun xs E' F Q' k => AQ.off rfl rfl rfl rfl (AQ.nil (k (0, undef)))) <|
      .cons (.fix 29 [0, 1, 2, 3, 4, 5, 6, 7, 8, 9, 10, 11, 12, 18, 19, 20, 21] [12] [] _) (fun xs E' F Q' k => AQ.off rfl rfl rfl rfl (AQ.nil (k (0, undef)))) <|
      .cons (.fix 30 [0, 1, 2, 3, 4, 5, 6, 7, 8, 9, 10, 11, 12, 13, 14, 15, 16, 17, 18, 19, 20, 21, 22] [12] [] _) (fun xs E' F Q' k => AQ.off rfl rfl rfl rfl (AQ.nil (k (0, undef)))) <|
      .cons (.fix 31 [0, 1, 2, 3, 4, 5, 6, 7, 8, 9, 10, 11, 12] [12] [] _) (fun xs E' F Q' k => AQ.off rfl rfl rfl rfl (AQ.nil (k (0, undef)))) <|
      .cons (.fix 32 [0, 1, 2, 3, 4, 5, 6, 7, 8, 9, 10, 11, 12, 24] [12] [] _) (fun xs E' F Q' k => AQ.off rfl rfl rfl rfl (AQ.nil (k (0, undef)))) <|
      .cons (.fix 33 [0, 1, 2, 3, 4, 5, 6, 7, 8, 9, 10, 11, 12, 13, 14, 15, 16, 17, 18, 19, 20, 21, 22, 23, 24, 25] [12] [] _) (fun xs E' F Q' k => AQ.off rfl rfl rfl rfl (AQ.nil (k (0, undef)))) <|
      .cons (.fix 34 [0, 1, 2, 3, 4, 5, 6, 7, 8, 9, 10, 11, 12, 13, 14, 15, 16, 17, 18, 19, 20, 21, 22, 23, 24, 25, 26] [12, 26] [] _) (fun xs E' F Q' k => AQ.pick_f (.plain rfl) rfl rfl rfl (AQ.nil (k (0, undef)))) <|
      .nil) (by kernel_rfl) (by kernel_rfl) (fun x6 => ?_)
    refine AQ.then_n ?_
    refine AQ.cond_f rfl ?_
    refine AQ.skip ?_
    refine AQ.then_n ?_
    refine AQ.region ?_
    refine AQ.loadv1 (.plain rfl) rfl 1 rfl rfl ag174 rfl ?_
    refine AQ.loadvA (.plain rfl) rfl 0 rfl rfl ag183 rfl rfl ?_
    refine AQ.buildSlice (rows := [[_, _, _, _]]) (.plain rfl) rfl Tryz.underlying174 el183 zo183 rfl rfl rfl (.agg rfl rfl rfl .nil) rfl rfl (by simp) (fun u7 => ?_)
    refine AQ.append (.plain rfl) rfl 3 rfl (.osl rfl 0 rfl) rfl Tryz.underlying174 el183 rfl rfl (by simp only [List.length_cons, List.length_nil, List.length_map, List.length_append, List.length_range]; omega) (fun v8 => ?_)
    try simp only [List.set_cons_zero, List.set_cons_succ]
    refine AQ.oslOne 3 rfl (fun ho9 => ?_)
    refine AQ.storev1 (.plain rfl) rfl 2 rfl rfl (.val ho9) ag174 rfl ?_
    try simp only [List.set_cons_zero, List.set_cons_succ]
    refine AQ.nil ?_
    refine AQ.oslR 3 rfl (show _ = pieceRows (joinP (init ++ [q]) p) from by simp only [joinP_miss (p := p) (q := q) (init := init) (fun hh => absurd hh.1 hq1), List.map_append]; rfl) ?_
    try simp only [List.set_cons_zero, List.set_cons_succ]
    refine AQ.dropN 1 ?_
    refine AQ.dropN 1 ?_
    refine AQ.eqH (H' := _ :: _ :: H) rfl ?_
    exact AQ.doneN (ts := []) (Imm.le_refl _) Tryz.results222 rfl rfl ⟨_, rfl, rfl⟩   -- !! body ends without ret
  · subst hout
    have hql := y1 q (by simp)
    simp only [List.length_append, List.length_singleton] at y0
    refine AQ.weaken (E' := [(0, _), (1, _), (2, _), (3, _)]) ⟨rfl, rfl, rfl, rfl, trivial⟩ ?_
    refine AQ.draw (F0 := _) [.fix none none _, .fix none none _, .fix none none _] mixed rfl (
      .cons (.fix 7 [] [] [] _) (fun xs E' F Q' k => AQ.move (.plain rfl) rfl rfl (AQ.nil (k (0, undef)))) <|
      .cons (.fix 8 [0] [0] [] _) (fun xs E' F Q' k => AQ.geq (.plain rfl) rfl rfl rfl (AQ.cgv (dec_t (by simp)) (AQ.nil (k (0, undef))))) <|
      .cons (.fix 9 [0, 1] [1] [] _) (fun xs E' F Q' k => AQ.move (.plain rfl) rfl rfl (AQ.nil (k (0, undef)))) <|
      .cons (.fix 10 [0, 1, 2] [2] [1] _) (fun xs E' F Q' k => AQ.loadv1 (.on rfl rfl rfl) rfl 0 rfl rfl ag174 rfl (AQ.nil (k (0, undef)))) <|
      .cons (.fix 11 [0, 1, 2] [2] [] _) (fun xs E' F Q' k => AQ.move (.on rfl rfl rfl) rfl rfl (AQ.nil (k (0, undef)))) <|
      .cons (.fix 12 [0, 1, 2, 3, 4] [2, 3, 4] [2] _) (fun xs E' F Q' k => AQ.indexo (.on rfl rfl rfl) rfl 0 rfl rfl rfl Tryz.underlying174 ag183 (by simp only [List.length_append, List.length_map, List.length_singleton]; omega) (by simp only [List.length_append, List.length_map, List.length_singleton]; omega) (AQ.nil (k (0, undef)))) <|
      .cons (.fix 13 [0, 1, 2, 3, 4, 5] [2, 5] [] _) (fun xs E' F Q' k => AQ.fieldo (.on rfl rfl rfl) rfl rfl fo183_0 rfl (AQ.nil (k (0, undef)))) <|
      .cons (.fix 14 [0, 1, 2, 3, 4, 5, 6] [2, 6] [2] _) (fun xs E' F Q' k => AQ.loado1 (.on rfl rfl rfl) rfl 0 rfl _ 0 rfl (rows_last _ _ _) rfl rfl ag3  (AQ.nil (k (0, undef)))) <|
      .cons (.fix 15 [0, 1, 2] [2] [] _) (fun xs E' F Q' k => AQ.fieldv (.on rfl rfl rfl) rfl rfl fo183_0 rfl (AQ.nil (k (0, undef)))) <|
      .cons (.fix 16 [0, 1, 2, 8] [2, 8] [0] _) (fun xs E' F Q' k => AQ.loadv1 (.on rfl rfl rfl) rfl 0 rfl rfl ag3 rfl (AQ.nil (k (0, undef)))) <|
      .cons (.fix 17 [0, 1, 2, 3, 4, 5, 6, 7, 8, 9] [2, 7, 9] [] _) (fun xs E' F Q' k => AQ.eql (.on rfl rfl rfl) rfl rfl rfl (AQ.cgv (dec_t hq1) (AQ.nil (k (0, undef))))) <|
      .cons (.fix 18 [0, 1, 2, 3, 4, 5, 6, 7, 8, 9, 10] [2, 10] [] _) (fun xs E' F Q' k => AQ.pick_t (.plain rfl) rfl rfl rfl (AQ.nil (k (0, undef)))) <|
      .cons (.fix 19 [0, 1, 2, 3, 4, 5, 6, 7, 8, 9, 10, 11] [11] [] _) (fun xs E' F Q' k => AQ.move (.plain rfl) rfl rfl (AQ.nil (k (0, undef)))) <|
      .cons (.fix 20 [0, 1, 2, 3, 4, 5, 6, 7, 8, 9, 10, 11, 12] [12] [1] _) (fun xs E' F Q' k => AQ.loadv1 (.on rfl rfl rfl) rfl 0 rfl rfl ag174 rfl (AQ.nil (k (0, undef)))) <|
      .cons (.fix 21 [0, 1, 2, 3, 4, 5, 6, 7, 8, 9, 10, 11, 12] [12] [] _) (fun xs E' F Q' k => AQ.move (.on rfl rfl rfl) rfl rfl (AQ.nil (k (0, undef)))) <|
      .cons (.fix 22 [0, 1, 2, 3, 4, 5, 6, 7, 8, 9, 10, 11, 12, 13, 14] [12, 13, 14] [2] _) (fun xs E' F Q' k => AQ.indexo (.on rfl rfl rfl) rfl 0 rfl rfl rfl Tryz.underlying174 ag183 (by simp only [List.length_append, List.length_map, List.length_singleton]; omega) (by simp only [List.length_append, List.length_map, List.length_singleton]; omega) (AQ.nil (k (0, undef)))) <|
      .cons (.fix 23 [0, 1, 2, 3, 4, 5, 6, 7, 8, 9, 10, 11, 12, 13, 14, 15] [12, 15] [] _) (fun xs E' F Q' k => AQ.fieldo (.on rfl rfl rfl) rfl rfl fo183_1 rfl (AQ.nil (k (0, undef)))) <|
      .cons (.fix 24 [0, 1, 2, 3, 4, 5, 6, 7, 8, 9, 10, 11, 12, 13, 14, 15, 16] [12, 16] [2] _) (fun xs E' F Q' k => AQ.loado1 (.on rfl rfl rfl) rfl 0 rfl _ 1 rfl (rows_last _ _ _) rfl rfl ag3  (AQ.nil (k (0, undef)))) <|
      .cons (.fix 25 [0, 1, 2, 3, 4, 5, 6, 7, 8, 9, 10, 11, 12] [12] [1] _) (fun xs E' F Q' k => AQ.loadv1 (.on rfl rfl rfl) rfl 0 rfl rfl ag174 rfl (AQ.nil (k (0, undef)))) <|
      .cons (.fix 26 [0, 1, 2, 3, 4, 5, 6, 7, 8, 9, 10, 11, 12] [12] [] _) (fun xs E' F Q' k => AQ.move (.on rfl rfl rfl) rfl rfl (AQ.nil (k (0, undef)))) <|
      .cons (.fix 27 [0, 1, 2, 3, 4, 5, 6, 7, 8, 9, 10, 11, 12, 18, 19] [12, 18, 19] [2] _) (fun xs E' F Q' k => AQ.indexo (.on rfl rfl rfl) rfl 0 rfl rfl rfl Tryz.underlying174 ag183 (by simp only [List.length_append, List.length_map, List.length_singleton]; omega) (by simp only [List.length_append, List.length_map, List.length_singleton]; omega) (AQ.nil (k (0, undef)))) <|
      .cons (.fix 28 [0, 1, 2, 3, 4, 5, 6, 7, 8, 9, 10, 11, 12, 18, 19, 20] [12, 20] [] _) (fun xs E' F Q' k => AQ.fieldo (.on rfl rfl rfl) rfl rfl fo183_2 rfl (AQ.nil (k (0, undef)))) <|
      .cons (.fix 29 [0, 1, 2, 3, 4, 5, 6, 7, 8, 9, 10, 11, 12, 18, 19, 20, 21] [12, 21] [2] _) (fun xs E' F Q' k => AQ.loado1 (.on rfl rfl rfl) rfl 0 rfl _ 2 rfl (rows_last _ _ _) rfl rfl ag3  (AQ.nil (k (0, undef)))) <|
      .cons (.fix 30 [0, 1, 2, 3, 4, 5, 6, 7, 8, 9, 10, 11, 12, 13, 14, 15, 16, 17, 18, 19, 20, 21, 22] [12, 17, 22] [] _) (fun xs E' F Q' k => AQ.add (.on rfl rfl rfl) rfl rfl rfl (i64_id (by omega) (by omega)) (AQ.nil (k (0, undef)))) <|
      .cons (.fix 31 [0, 1, 2, 3, 4, 5, 6, 7, 8, 9, 10, 11, 12] [12] [] _) (fun xs E' F Q' k => AQ.fieldv (.on rfl rfl rfl) rfl rfl fo183_1 rfl (AQ.nil (k (0, undef)))) <|
      .cons (.fix 32 [0, 1, 2, 3, 4, 5, 6, 7, 8, 9, 10, 11, 12, 24] [12, 24] [0] _) (fun xs E' F Q' k => AQ.loadv1 (.on rfl rfl rfl) rfl 0 rfl rfl ag3 rfl (AQ.nil (k (0, undef)))) <|
      .cons (.fix 33 [0, 1, 2, 3, 4, 5, 6, 7, 8, 9, 10, 11, 12, 13, 14, 15, 16, 17, 18, 19, 20, 21, 22, 23, 24, 25] [12, 23, 25] [] _) (fun xs E' F Q' k => AQ.eql (.on rfl rfl rfl) rfl rfl rfl (AQ.cgv (dec_f hq2) (AQ.nil (k (0, undef))))) <|
      .cons (.fix 34 [0, 1, 2, 3, 4, 5, 6, 7, 8, 9, 10, 11, 12, 13, 14, 15, 16, 17, 18, 19, 20, 21, 22, 23, 24, 25, 26] [12, 26] [] _) (fun xs E' F Q' k => AQ.pick_t (.plain rfl) rfl rfl rfl (AQ.nil (k (0, undef)))) <|
      .nil) (by kernel_rfl) (by kernel_rfl) (fun x10 => ?_)
    refine AQ.then_n ?_
    refine AQ.cond_f rfl ?_
    refine AQ.skip ?_
    refine AQ.then_n ?_
    refine AQ.region ?_
    refine AQ.loadv1 (.plain rfl) rfl 1 rfl rfl ag174 rfl ?_
    refine AQ.loadvA (.plain rfl) rfl 0 rfl rfl ag183 rfl rfl ?_
    refine AQ.buildSlice (rows := [[_, _, _, _]]) (.plain rfl) rfl Tryz.underlying174 el183 zo183 rfl rfl rfl (.agg rfl rfl rfl .nil) rfl rfl (by simp) (fun u11 => ?_)
    refine AQ.append (.plain rfl) rfl 3 rfl (.osl rfl 0 rfl) rfl Tryz.underlying174 el183 rfl rfl (by simp only [List.length_cons, List.length_nil, List.length_map, List.length_append, List.length_range]; omega) (fun v12 => ?_)
    try simp only [List.set_cons_zero, List.set_cons_succ]
    refine AQ.oslOne 3 rfl (fun ho13 => ?_)
    refine AQ.storev1 (.plain rfl) rfl 2 rfl rfl (.val ho13) ag174 rfl ?_
    try simp only [List.set_cons_zero, List.set_cons_succ]
    refine AQ.nil ?_
    refine AQ.oslR 3 rfl (show _ = pieceRows (joinP (init ++ [q]) p) from by simp only [joinP_miss (p := p) (q := q) (init := init) (fun hh => absurd hh.2 hq2), List.map_append]; rfl) ?_
    try simp only [List.set_cons_zero, List.set_cons_succ]
    refine AQ.dropN 1 ?_
    refine AQ.dropN 1 ?_
    refine AQ.eqH (H' := _ :: _ :: H) rfl ?_
    exact AQ.doneN (ts := []) (Imm.le_refl _) Tryz.results222 rfl rfl ⟨_, rfl, rfl⟩   -- !! body ends without ret
  · subst hout
    have hql := y1 q (by simp)
    simp only [List.length_append, List.length_singleton] at y0
    refine AQ.weaken (E' := [(0, _), (1, _), (2, _), (3, _)]) ⟨rfl, rfl, rfl, rfl, trivial⟩ ?_
    refine AQ.draw (F0 := _) [.fix none none _, .fix none none _, .fix none none _] mixed rfl (
      .cons (.fix 7 [] [] [] _) (fun xs E' F Q' k => AQ.move (.plain rfl) rfl rfl (AQ.nil (k (0, undef)))) <|
      .cons (.fix 8 [0] [0] [] _) (fun xs E' F Q' k => AQ.geq (.plain rfl) rfl rfl rfl (AQ.cgv (dec_t (by simp)) (AQ.nil (k (0, undef))))) <|
      .cons (.fix 9 [0, 1] [1] [] _) (fun xs E' F Q' k => AQ.move (.plain rfl) rfl rfl (AQ.nil (k (0, undef)))) <|
      .cons (.fix 10 [0, 1, 2] [2] [1] _) (fun xs E' F Q' k => AQ.loadv1 (.on rfl rfl rfl) rfl 0 rfl rfl ag174 rfl (AQ.nil (k (0, undef)))) <|
      .cons (.fix 11 [0, 1, 2] [2] [] _) (fun xs E' F Q' k => AQ.move (.on rfl rfl rfl) rfl rfl (AQ.nil (k (0, undef)))) <|
      .cons (.fix 12 [0, 1, 2, 3, 4] [2, 3, 4] [2] _) (fun xs E' F Q' k => AQ.indexo (.on rfl rfl rfl) rfl 0 rfl rfl rfl Tryz.underlying174 ag183 (by simp only [List.length_append, List.length_map, List.length_singleton]; omega) (by simp only [List.length_append, List.length_map, List.length_singleton]; omega) (AQ.nil (k (0, undef)))) <|
      .cons (.fix 13 [0, 1, 2, 3, 4, 5] [2, 5] [] _) (fun xs E' F Q' k => AQ.fieldo (.on rfl rfl rfl) rfl rfl fo183_0 rfl (AQ.nil (k (0, undef)))) <|
      .cons (.fix 14 [0, 1, 2, 3, 4, 5, 6] [2, 6] [2] _) (fun xs E' F Q' k => AQ.loado1 (.on rfl rfl rfl) rfl 0 rfl _ 0 rfl (rows_last _ _ _) rfl rfl ag3  (AQ.nil (k (0, undef)))) <|
      .cons (.fix 15 [0, 1, 2] [2] [] _) (fun xs E' F Q' k => AQ.fieldv (.on rfl rfl rfl) rfl rfl fo183_0 rfl (AQ.nil (k (0, undef)))) <|
      .cons (.fix 16 [0, 1, 2, 8] [2, 8] [0] _) (fun xs E' F Q' k => AQ.loadv1 (.on rfl rfl rfl) rfl 0 rfl rfl ag3 rfl (AQ.nil (k (0, undef)))) <|
      .cons (.fix 17 [0, 1, 2, 3, 4, 5, 6, 7, 8, 9] [2, 7, 9] [] _) (fun xs E' F Q' k => AQ.eql (.on rfl rfl rfl) rfl rfl rfl (AQ.cgv (dec_t hq1) (AQ.nil (k (0, undef))))) <|
      .cons (.fix 18 [0, 1, 2, 3, 4, 5, 6, 7, 8, 9, 10] [2, 10] [] _) (fun xs E' F Q' k => AQ.pick_t (.plain rfl) rfl rfl rfl (AQ.nil (k (0, undef)))) <|
      .cons (.fix 19 [0, 1, 2, 3, 4, 5, 6, 7, 8, 9, 10, 11] [11] [] _) (fun xs E' F Q' k => AQ.move (.plain rfl) rfl rfl (AQ.nil (k (0, undef)))) <|
      .cons (.fix 20 [0, 1, 2, 3, 4, 5, 6, 7, 8, 9, 10, 11, 12] [12] [1] _) (fun xs E' F Q' k => AQ.loadv1 (.on rfl rfl rfl) rfl 0 rfl rfl ag174 rfl (AQ.nil (k (0, undef)))) <|
      .cons (.fix 21 [0, 1, 2, 3, 4, 5, 6, 7, 8, 9, 10, 11, 12] [12] [] _) (fun xs E' F Q' k => AQ.move (.on rfl rfl rfl) rfl rfl (AQ.nil (k (0, undef)))) <|
      .cons (.fix 22 [0, 1, 2, 3, 4, 5, 6, 7, 8, 9, 10, 11, 12, 13, 14] [12, 13, 14] [2] _) (fun xs E' F Q' k => AQ.indexo (.on rfl rfl rfl) rfl 0 rfl rfl rfl Tryz.underlying174 ag183 (by simp only [List.length_append, List.length_map, List.length_singleton]; omega) (by simp only [List.length_append, List.length_map, List.length_singleton]; omega) (AQ.nil (k (0, undef)))) <|
      .cons (.fix 23 [0, 1, 2, 3, 4, 5, 6, 7, 8, 9, 10, 11, 12, 13, 14, 15] [12, 15] [] _) (fun xs E' F Q' k => AQ.fieldo (.on rfl rfl rfl) rfl rfl fo183_1 rfl (AQ.nil (k (0, undef)))) <|
      .cons (.fix 24 [0, 1, 2, 3, 4, 5, 6, 7, 8, 9, 10, 11, 12, 13, 14, 15, 16] [12, 16] [2] _) (fun xs E' F Q' k => AQ.loado1 (.on rfl rfl rfl) rfl 0 rfl _ 1 rfl (rows_last _ _ _) rfl rfl ag3  (AQ.nil (k (0, undef)))) <|
      .cons (.fix 25 [0, 1, 2, 3, 4, 5, 6, 7, 8, 9, 10, 11, 12] [12] [1] _) (fun xs E' F Q' k => AQ.loadv1 (.on rfl rfl rfl) rfl 0 rfl rfl ag174 rfl (AQ.nil (k (0, undef)))) <|
      .cons (.fix 26 [0, 1, 2, 3, 4, 5, 6, 7, 8, 9, 10, 11, 12] [12] [] _) (fun xs E' F Q' k => AQ.move (.on rfl rfl rfl) rfl rfl (AQ.nil (k (0, undef)))) <|
      .cons (.fix 27 [0, 1, 2, 3, 4, 5, 6, 7, 8, 9, 10, 11, 12, 18, 19] [12, 18, 19] [2] _) (fun xs E' F Q' k => AQ.indexo (.on rfl rfl rfl) rfl 0 rfl rfl rfl Tryz.underlying174 ag183 (by simp only [List.length_append, List.length_map, List.length_singleton]; omega) (by simp only [List.length_append, List.length_map, List.length_singleton]; omega) (AQ.nil (k (0, undef)))) <|
      .cons (.fix 28 [0, 1, 2, 3, 4, 5, 6, 7, 8, 9, 10, 11, 12, 18, 19, 20] [12, 20] [] _) (fun xs E' F Q' k => AQ.fieldo (.on rfl rfl rfl) rfl rfl fo183_2 rfl (AQ.nil (k (0, undef)))) <|
      .cons (.fix 29 [0, 1, 2, 3, 4, 5, 6, 7, 8, 9, 10, 11, 12, 18, 19, 20, 21] [12, 21] [2] _) (fun xs E' F Q' k => AQ.loado1 (.on rfl rfl rfl) rfl 0 rfl _ 2 rfl (rows_last _ _ _) rfl rfl ag3  (AQ.nil (k (0, undef)))) <|
      .cons (.fix 30 [0, 1, 2, 3, 4, 5, 6, 7, 8, 9, 10, 11, 12, 13, 14, 15, 16, 17, 18, 19, 20, 21, 22] [12, 17, 22] [] _) (fun xs E' F Q' k => AQ.add (.on rfl rfl rfl) rfl rfl rfl (i64_id (by omega) (by omega)) (AQ.nil (k (0, undef)))) <|
      .cons (.fix 31 [0, 1, 2, 3, 4, 5, 6, 7, 8, 9, 10, 11, 12] [12] [] _) (fun xs E' F Q' k => AQ.fieldv (.on rfl rfl rfl) rfl rfl fo183_1 rfl (AQ.nil (k (0, undef)))) <|
      .cons (.fix 32 [0, 1, 2, 3, 4, 5, 6, 7, 8, 9, 10, 11, 12, 24] [12, 24] [0] _) (fun xs E' F Q' k => AQ.loadv1 (.on rfl rfl rfl) rfl 0 rfl rfl ag3 rfl (AQ.nil (k (0, undef)))) <|
      .cons (.fix 33 [0, 1, 2, 3, 4, 5, 6, 7, 8, 9, 10, 11, 12, 13, 14, 15, 16, 17, 18, 19, 20, 21, 22, 23, 24, 25] [12, 23, 25] [] _) (fun xs E' F Q' k => AQ.eql (.on rfl rfl rfl) rfl rfl rfl (AQ.cgv (dec_t hq2) (AQ.nil (k (0, undef))))) <|
      .cons (.fix 34 [0, 1, 2, 3, 4, 5, 6, 7, 8, 9, 10, 11, 12, 13, 14, 15, 16, 17, 18, 19, 20, 21, 22, 23, 24, 25, 26] [12, 26] [] _) (fun xs E' F Q' k => AQ.pick_t (.plain rfl) rfl rfl rfl (AQ.nil (k (0, undef)))) <|
      .nil) (by kernel_rfl) (by kernel_rfl) (fun x14 => ?_)
    refine AQ.then_n ?_
    refine AQ.cond_t rfl ?_
    refine AQ.seq ?_
    refine AQ.weaken (E' := [(0, _), (1, _), (2, _), (3, _), (34, _)]) ⟨rfl, rfl, rfl, rfl, rfl, trivial⟩ ?_
    refine AQ.draw (F0 := _) [.fix none none _, .fix none none _, .fix none (some 10) _, .fix (some 10) none (.osl v 183 4 (((init ++ [q]).map Piece.cells).set (((init ++ [q]).length : Int) - 1).toNat (q.cells.set 2 (I (q.len + p.len)))))] mixed rfl (
      .cons (.fix 35 [] [] [1] _) (fun xs E' F Q' k => AQ.loadv1 (.plain rfl) rfl 0 rfl rfl ag174 rfl (AQ.nil (k (0, undef)))) <|
      .cons (.fix 36 [] [] [] _) (fun xs E' F Q' k => AQ.move (.plain rfl) rfl rfl (AQ.nil (k (0, undef)))) <|
      .cons (.fix 37 [0, 1] [0, 1] [2] _) (fun xs E' F Q' k => AQ.indexo (.plain rfl) rfl 0 rfl rfl rfl Tryz.underlying174 ag183 (by simp only [List.length_append, List.length_map, List.length_singleton]; omega) (by simp only [List.length_append, List.length_map, List.length_singleton]; omega) (AQ.nil (k (0, undef)))) <|
      .cons (.fix 38 [0, 1, 2] [2] [] _) (fun xs E' F Q' k => AQ.fieldo (.plain rfl) rfl rfl fo183_2 rfl (AQ.nil (k (0, undef)))) <|
      .cons (.fix 39 [0, 1, 2, 3] [3] [2] _) (fun xs E' F Q' k => AQ.loado1 (.plain rfl) rfl 0 rfl _ 2 rfl (rows_last _ _ _) rfl rfl ag3  (AQ.nil (k (0, undef)))) <|
      .cons (.fix 40 [] [] [] _) (fun xs E' F Q' k => AQ.fieldv (.plain rfl) rfl rfl fo183_2 rfl (AQ.nil (k (0, undef)))) <|
      .cons (.fix 41 [5] [5] [0] _) (fun xs E' F Q' k => AQ.loadv1 (.plain rfl) rfl 0 rfl rfl ag3 rfl (AQ.nil (k (0, undef)))) <|
      .cons (.fix 42 [0, 1, 2, 3, 4, 5, 6] [4, 6] [] _) (fun xs E' F Q' k => AQ.add (.plain rfl) rfl rfl rfl (i64_id (by omega) (by omega)) (AQ.nil (k (0, undef)))) <|
      .cons (.fix 43 [0, 1, 2, 3, 4, 5, 6, 7] [0, 1] [2] _) (fun xs E' F Q' k => AQ.indexo (.plain rfl) rfl 0 rfl rfl rfl Tryz.underlying174 ag183 (by simp only [List.length_append, List.length_map, List.length_singleton]; omega) (by simp only [List.length_append, List.length_map, List.length_singleton]; omega) (AQ.nil (k (0, undef)))) <|
      .cons (.fix 44 [0, 1, 2, 3, 4, 5, 6, 7, 8] [8] [] _) (fun xs E' F Q' k => AQ.fieldo (.plain rfl) rfl rfl fo183_2 rfl (AQ.nil (k (0, undef)))) <|
      .cons (.fix0 [0, 1, 2, 3, 4, 5, 6, 7, 8, 9] [7, 9] [2]) (fun xs E' F Q' k => AQ.storeo1 (.plain rfl) rfl 0 rfl _ 2 rfl (rows_last _ _ _) rfl rfl (.val rfl) ag3 (AQ.nil (k (0, undef)))) <|
      .nil) (by kernel_rfl) (by kernel_rfl) (fun x15 => ?_)
    refine AQ.then_n ?_
    refine AQ.ret ?_
    refine AQ.then_r ?_
    refine AQ.oslR 2 rfl (show _ = pieceRows (joinP (init ++ [q]) p) from by rw [rows_set_last Piece.cells, joinP_hit hq1 hq2]; simp only [List.map_append]; rfl) ?_
    try simp only [List.set_cons_zero, List.set_cons_succ]
    refine AQ.dropN 1 ?_
    refine AQ.eqH (H' := _ :: _ :: H) rfl ?_
    exact AQ.doneN (ts := []) (Imm.le_refl _) Tryz.results222 rfl rfl ⟨_, rfl, rfl⟩
theorem stripePieces (l : Layout) (off n : Int) (H : List HA) (y0 : l.May) (y1 : 0 ≤ off) (y2 : off ≤ 1000000) (y3 : 0 ≤ n) (y4 : n ≤ 512) : AC Tryz.prog 176 [.agg l.cells, I off, I n] (H) (fun r H' => ∃ v, r = .val v ∧ H' = .osl v 183 4 (pieceRows (pieces l off n)) :: H) := by
  refine AC.enter Tryz.func176 rfl Tryz.ntmps176 rfl (fun I0 => ?_)
  have hin : (∀ x ∈ [off, n], inFar x) ∧ l.May := ⟨by intro x hx; simp only [List.mem_cons, List.mem_nil_iff, or_false] at hx; rcases hx with rfl | rfl <;> (unfold inFar; omega), y0⟩
  have q := y0
  obtain ⟨q1, q2, q3, q4, q5, q6⟩ := q
  refine AQ.seq ?_
  refine AQ.region ?_
  refine AQ.boxA (.plain rfl) rfl rfl (fun b1 => ?_)
  refine AQ.assign (.plain rfl) rfl rfl ?_
  refine AQ.nil ?_
  refine AQ.then_n ?_
  refine AQ.seq ?_
  refine AQ.seq ?_
  refine AQ.region ?_
  refine AQ.loadvA (.plain rfl) rfl 0 rfl rfl ag37 rfl rfl ?_
  refine AQ.move (.plain rfl) rfl rfl ?_
  refine AQ.move (.plain rfl) rfl rfl ?_
  refine AQ.buildSlice (rows := [[_], [_]]) (.plain rfl) rfl Tryz.underlying38 el3 zo3 rfl rfl rfl (.one rfl (.val rfl) rfl rfl (.one rfl (.val rfl) rfl rfl .nil)) rfl rfl (by simp) (fun u2 => ?_)
  refine AQ.freeze 0 rfl (fun J3 hJ3 hp3 => ?_)
  refine AQ.as (t := 18) rfl hp3 ?_
  refine AQ.callf (.plain rfl) rfl rfl en203 (stripeMay l [off, n] _) ?_
  refine AQ.not_d (.plain rfl) rfl rfl ?_
  refine AQ.move (.plain rfl) rfl rfl ?_
  refine AQ.split (t := 21) rfl (fun h4 => ?_) (fun h4 => ?_)
  · refine AQ.off rfl rfl rfl rfl ?_
    refine AQ.off rfl rfl rfl rfl ?_
    refine AQ.pick_t (.plain rfl) rfl rfl rfl ?_
    refine AQ.nil ?_
    refine AQ.then_n ?_
    refine AQ.cond_t rfl ?_
    refine AQ.seq ?_
    refine AQ.region ?_
    refine AQ.assign (.plain rfl) rfl rfl ?_
    refine AQ.nil ?_
    refine AQ.then_n ?_
    refine AQ.ret ?_
    refine AQ.then_r ?_
    refine AQ.dropN 1 ?_
    refine AQ.eqH (H' := H) rfl ?_
    exact AQ.done1 hJ3 Tryz.results176 rfl (absurd hin (by assumption))
  · refine AQ.move (.on rfl rfl rfl) rfl rfl ?_
    refine AQ.gtr (.on rfl rfl rfl) rfl rfl rfl ?_
    refine AQ.pick_f (.plain rfl) rfl rfl rfl ?_
    refine AQ.nil ?_
    refine AQ.then_n ?_
    refine AQ.cond_d rfl (fun h5 => ?_) (fun h5 => ?_)
    · refine AQ.seq ?_
      refine AQ.region ?_
      refine AQ.assign (.plain rfl) rfl rfl ?_
      refine AQ.nil ?_
      refine AQ.then_n ?_
      refine AQ.ret ?_
      refine AQ.then_r ?_
      refine AQ.dropN 1 ?_
      refine AQ.eqH (H' := H) rfl ?_
      exact AQ.done1 hJ3 Tryz.results176 rfl (absurd y4 (by omega))
    · refine AQ.skip ?_
      refine AQ.then_n ?_
      refine AQ.seq ?_
      refine AQ.region ?_
      refine AQ.alloc (.plain rfl) zo174 rfl rfl (fun b6 => ?_)
      refine AQ.nil ?_
      refine AQ.then_n ?_
      refine AQ.seq ?_
      refine AQ.region ?_
      refine AQ.makeFunc (fs := []) (cs := [_]) (.plain rfl) rfl rfl rfl ?_
      refine AQ.assign (.plain rfl) rfl rfl ?_
      refine AQ.nil ?_
      refine AQ.then_n ?_
      refine AQ.seq ?_
      refine AQ.seq ?_
      refine AQ.region ?_
      refine AQ.assign (.plain rfl) rfl rfl ?_
      refine AQ.nil ?_
      refine AQ.then_n ?_
      refine AQ.block ?_
      refine AQ.ownNil (A := none) 183 4 ?_
      refine AQ.loop (σ := Nat × Int × List Piece × Value) (fun s => [(1, I off), (2, I n), (3, .val (.pointer (some ⟨b1, 0, none⟩))), (7, .val (.pointer (some ⟨b6, 0, none⟩))), (8, .val (.func (.func 222) ([] : List Value).toArray [Value.pointer (some ⟨b6, 0, none⟩)].toArray)), (9, I s.2.1)]) (fun s => .osl s.2.2.2 183 4 (pieceRows s.2.2.1) :: .box b6 174 [.val s.2.2.2] :: .box b1 37 l.cells :: H) (fun s => n - s.2.1 ≤ s.1 ∧ 0 ≤ s.2.1 ∧ s.2.1 ≤ n ∧ piecesGo l off n s.1 s.2.1 s.2.2.1 = pieces l off n ∧ PInv l off s.2.1 s.2.2.1) (fun s => s.1) (n.toNat, 0, [], Value.slice none 0 0) ⟨by simp only; omega, Int.le_refl _, y3, rfl, rfl, by simp⟩ ⟨rfl, rfl, rfl, rfl, rfl, rfl, trivial⟩ rfl (fun s hs => ?_)
      refine AQ.seq ?_
      refine AQ.seq ?_
      refine AQ.region ?_
      refine AQ.move (.plain rfl) rfl rfl ?_
      refine AQ.move (.plain rfl) rfl rfl ?_
      refine AQ.lss (.plain rfl) rfl rfl rfl ?_
      refine AQ.nil ?_
      refine AQ.then_n ?_
      refine AQ.cond_d rfl (fun h7 => ?_) (fun h7 => ?_)
      · refine AQ.skip ?_
        refine AQ.then_n ?_
        refine AQ.block ?_
        refine AQ.seq ?_
        refine AQ.region ?_
        obtain ⟨f1, f2, f3, f4, f5, f6, f7, f8, f9⟩ := stripeFacts y0 (off := off + s.2.1) (by omega)
        have hpk := pieceAt_ok y0 (off := off) (n := n) (a := s.2.1) y1 hs.2.1 (by assumption)
        have hol : s.2.2.1.length ≤ 10000 := (by have := hs.2.2.2.2.len; omega)
        have hob := hs.2.2.2.2.bounds y0 y1
        have hpl : -100000 ≤ (pieceAt l off n s.2.1).len ∧ (pieceAt l off n s.2.1).len ≤ 100000 := (by have := hpk.1.len; have := hpk.2; omega)
        refine AQ.move (.plain rfl) rfl rfl ?_
        refine AQ.move (.plain rfl) rfl rfl ?_
        refine AQ.add (.plain rfl) rfl rfl rfl (i64_id (by omega) (by omega)) ?_
        refine AQ.fieldv (.plain rfl) rfl rfl fo37_0 rfl ?_
        refine AQ.loadv1 (.plain rfl) rfl 2 rfl rfl ag3 rfl ?_
        refine AQ.quo (.plain rfl) rfl rfl rfl (by omega) (tdiv_pos (by omega) (by omega) (by omega)) ?_
        refine AQ.assign (.plain rfl) rfl rfl ?_
        refine AQ.nil ?_
        refine AQ.then_n ?_
        refine AQ.seq ?_
        refine AQ.region ?_
        refine AQ.move (.plain rfl) rfl rfl ?_
        refine AQ.move (.plain rfl) rfl rfl ?_
        refine AQ.add (.plain rfl) rfl rfl rfl (i64_id (by omega) (by omega)) ?_
        refine AQ.fieldv (.plain rfl) rfl rfl fo37_0 rfl ?_
        refine AQ.loadv1 (.plain rfl) rfl 2 rfl rfl ag3 rfl ?_
        refine AQ.rem (.plain rfl) rfl rfl rfl (by omega) (tmod_pos (by omega)) ?_
        refine AQ.assign (.plain rfl) rfl rfl ?_
        refine AQ.nil ?_
        refine AQ.then_n ?_
        refine AQ.seq ?_
        refine AQ.region ?_
        refine AQ.move (.plain rfl) rfl rfl ?_
        refine AQ.fieldv (.plain rfl) rfl rfl fo37_1 rfl ?_
        refine AQ.loadv1 (.plain rfl) rfl 2 rfl rfl ag3 rfl ?_
        refine AQ.quo (.plain rfl) rfl rfl rfl (by omega) (tdiv_pos (by omega) (by omega) (by omega)) ?_
        refine AQ.assign (.plain rfl) rfl rfl ?_
        refine AQ.nil ?_
        refine AQ.then_n ?_
        refine AQ.seq ?_
        refine AQ.region ?_
        refine AQ.fieldv (.plain rfl) rfl rfl fo37_2 rfl ?_
        refine AQ.loadv1 (.plain rfl) rfl 2 rfl rfl ag3 rfl ?_
        refine AQ.fieldv (.plain rfl) rfl rfl fo37_0 rfl ?_
        refine AQ.loadv1 (.plain rfl) rfl 2 rfl rfl ag3 rfl ?_
        refine AQ.quo (.plain rfl) rfl rfl rfl (by omega) (tdiv_pos (by omega) (by omega) (by omega)) ?_
        refine AQ.assign (.plain rfl) rfl rfl ?_
        refine AQ.nil ?_
        refine AQ.then_n ?_
        refine AQ.seq ?_
        refine AQ.weaken (E' := [(1, _), (2, _), (3, _), (7, _), (8, _), (9, _), (28, _), (10, _), (11, _), (12, _), (13, _)]) ⟨rfl, rfl, rfl, rfl, rfl, rfl, rfl, rfl, rfl, rfl, rfl, trivial⟩ ?_
        refine AQ.draw (F0 := _) [.fix none none _, .fix none none _, .fix none none _, .box (some 29) (some 30) 29 _ _, .box (some 30) none 29 _ _] mixed rfl (
          .cons (.fix 50 [] [] [] _) (fun xs E' F Q' k => AQ.move (.plain rfl) rfl rfl (AQ.nil (k (0, undef)))) <|
          .cons (.fix 51 [] [] [] _) (fun xs E' F Q' k => AQ.move (.plain rfl) rfl rfl (AQ.nil (k (0, undef)))) <|
          .cons (.fix 52 [0, 1] [0, 1] [] _) (fun xs E' F Q' k => AQ.quo (.plain rfl) rfl rfl rfl (by omega) (tdiv_pos (by omega) (by omega) (by omega)) (AQ.nil (k (0, undef)))) <|
          .cons (.fix 53 [] [] [] _) (fun xs E' F Q' k => AQ.fieldv (.plain rfl) rfl rfl fo37_1 rfl (AQ.nil (k (0, undef)))) <|
          .cons (.fix 54 [3] [3] [2] _) (fun xs E' F Q' k => AQ.loadv1 (.plain rfl) rfl 0 rfl rfl ag3 rfl (AQ.nil (k (0, undef)))) <|
          .cons (.fix 55 [0, 1, 2, 3, 4] [2, 4] [] _) (fun xs E' F Q' k => AQ.mul (.plain rfl) rfl rfl rfl (i64_id (by omega) (by omega)) (AQ.nil (k (0, undef)))) <|
          .cons (.fix 56 [] [] [] _) (fun xs E' F Q' k => AQ.move (.plain rfl) rfl rfl (AQ.nil (k (0, undef)))) <|
          .cons (.fix 57 [] [] [] _) (fun xs E' F Q' k => AQ.fieldv (.plain rfl) rfl rfl fo37_1 rfl (AQ.nil (k (0, undef)))) <|
          .cons (.fix 58 [7] [7] [2] _) (fun xs E' F Q' k => AQ.loadv1 (.plain rfl) rfl 0 rfl rfl ag3 rfl (AQ.nil (k (0, undef)))) <|
          .cons (.fix 59 [6, 7, 8] [6, 8] [] _) (fun xs E' F Q' k => AQ.rem (.plain rfl) rfl rfl rfl (by omega) (tmod_pos (by omega)) (AQ.nil (k (0, undef)))) <|
          .cons (.fix 60 [0, 1, 2, 3, 4, 5, 6, 7, 8, 9] [5, 9] [] _) (fun xs E' F Q' k => AQ.add (.plain rfl) rfl rfl rfl (i64_id (by omega) (by omega)) (AQ.nil (k (0, undef)))) <|
          .cons (.fix 61 [] [] [] _) (fun xs E' F Q' k => AQ.move (.plain rfl) rfl rfl (AQ.nil (k (0, undef)))) <|
          .cons (.fix 62 [] [] [] _) (fun xs E' F Q' k => AQ.move (.plain rfl) rfl rfl (AQ.nil (k (0, undef)))) <|
          .cons (.fix 63 [11, 12] [11, 12] [] _) (fun xs E' F Q' k => AQ.rem (.plain rfl) rfl rfl rfl (by omega) (tmod_pos (by omega)) (AQ.nil (k (0, undef)))) <|
          .cons (.fix 64 [] [] [] _) (fun xs E' F Q' k => AQ.fieldv (.plain rfl) rfl rfl fo37_0 rfl (AQ.nil (k (0, undef)))) <|
          .cons (.fix 65 [14] [14] [2] _) (fun xs E' F Q' k => AQ.loadv1 (.plain rfl) rfl 0 rfl rfl ag3 rfl (AQ.nil (k (0, undef)))) <|
          .cons (.fix 66 [11, 12, 13, 14, 15] [13, 15] [] _) (fun xs E' F Q' k => AQ.mul (.plain rfl) rfl rfl rfl (i64_id (by omega) (by omega)) (AQ.nil (k (0, undef)))) <|
          .cons (.fix 67 [] [] [] _) (fun xs E' F Q' k => AQ.move (.plain rfl) rfl rfl (AQ.nil (k (0, undef)))) <|
          .cons (.fix 68 [11, 12, 13, 14, 15, 16, 17] [16, 17] [] _) (fun xs E' F Q' k => AQ.add (.plain rfl) rfl rfl rfl (i64_id (by omega) (by omega)) (AQ.nil (k (0, undef)))) <|
          .cons (.fix 69 [] [] [] _) (fun xs E' F Q' k => AQ.fieldv (.plain rfl) rfl rfl fo37_0 rfl (AQ.nil (k (0, undef)))) <|
          .cons (.fix 70 [19] [19] [2] _) (fun xs E' F Q' k => AQ.loadv1 (.plain rfl) rfl 0 rfl rfl ag3 rfl (AQ.nil (k (0, undef)))) <|
          .cons (.fix 71 [] [] [] _) (fun xs E' F Q' k => AQ.move (.plain rfl) rfl rfl (AQ.nil (k (0, undef)))) <|
          .cons (.fix 72 [19, 20, 21] [20, 21] [] _) (fun xs E' F Q' k => AQ.sub (.plain rfl) rfl rfl rfl (i64_id (by omega) (by omega)) (AQ.nil (k (0, undef)))) <|
          .cons (.fix 73 [] [] [] _) (fun xs E' F Q' k => AQ.move (.plain rfl) rfl rfl (AQ.nil (k (0, undef)))) <|
          .cons (.fix 74 [] [] [] _) (fun xs E' F Q' k => AQ.move (.plain rfl) rfl rfl (AQ.nil (k (0, undef)))) <|
          .cons (.fix 75 [23, 24] [23, 24] [] _) (fun xs E' F Q' k => AQ.sub (.plain rfl) rfl rfl rfl (i64_id (by omega) (by omega)) (AQ.nil (k (0, undef)))) <|
          .cons (.fix 76 [19, 20, 21, 22, 23, 24, 25] [22, 25] [] _) (fun xs E' F Q' k => AQ.min2 (.plain rfl) rfl rfl rfl (AQ.nil (k (0, undef)))) <|
          .cons (.fix 77 [] [] [] _) (fun xs E' F Q' k => AQ.move (.plain rfl) rfl rfl (AQ.nil (k (0, undef)))) <|
          .cons (.fix 78 [0, 1, 2, 3, 4, 5, 6, 7, 8, 9, 10, 11, 12, 13, 14, 15, 16, 17, 18, 19, 20, 21, 22, 23, 24, 25, 26, 27] [10, 18, 26, 27] [] (.agg (pieceAt l off n s.2.1).cells)) (fun xs E' F Q' k => AQ.build (.plain rfl) rfl zo183 rfl pl183 (.one rfl (.val rfl) rfl rfl (.one rfl (.val rfl) rfl rfl (.one rfl (.val rfl) rfl rfl (.one rfl (.val rfl) rfl rfl .nil)))) (AQ.nil (k (0, undef)))) <|
          .cons (.ptr 14 [] [] [] 29 _) (fun xs E' F Q' k => AQ.alloc (.plain rfl) zo183 rfl rfl (fun b8 => AQ.nil (k (b8, undef)))) <|
          .cons (.fix0 [0, 1, 2, 3, 4, 5, 6, 7, 8, 9, 10, 11, 12, 13, 14, 15, 16, 17, 18, 19, 20, 21, 22, 23, 24, 25, 26, 27, 28, 29] [28, 29] [3]) (fun xs E' F Q' k => AQ.storevA (.plain rfl) rfl 0 rfl rfl ag183 rfl rfl (AQ.nil (k (0, undef)))) <|
          .nil) (by kernel_rfl) (by kernel_rfl) (fun x9 => ?_)
        refine AQ.then_n ?_
        refine AQ.seq ?_
        refine AQ.region ?_
        refine AQ.move (.plain rfl) rfl rfl ?_
        refine AQ.loadvA (.plain rfl) rfl 3 rfl rfl ag183 rfl rfl ?_
        refine AQ.front 1 ?_
        refine AQ.callvo (first := []) (cap := [_]) (.plain rfl) rfl rfl rfl en222 (piecesJoin _ _ s.2.2.1 (pieceAt l off n s.2.1) _ hol hob hpl) (fun w10 => ?_)
        refine AQ.nil ?_
        refine AQ.then_n ?_
        refine AQ.region ?_
        refine AQ.move (.plain rfl) rfl rfl ?_
        refine AQ.fieldv (.plain rfl) rfl rfl fo183_2 rfl ?_
        refine AQ.loadv1 (.plain rfl) rfl 3 rfl rfl ag3 rfl ?_
        refine AQ.add (.plain rfl) rfl rfl rfl (i64_id (by omega) (by omega)) ?_
        refine AQ.assign (.plain rfl) rfl rfl ?_
        refine AQ.nil ?_
        refine AQ.block_n ?_
        refine AQ.front 3 ?_
        refine AQ.dropN 1 ?_
        refine AQ.front 2 ?_
        refine AQ.front 1 ?_
        refine AQ.front 2 ?_
        refine AQ.eqH (H' := _ :: _ :: _ :: H) rfl ?_
        exact AQ.again (Imm.le_refl _) (s.1 - 1, s.2.1 + (pieceAt l off n s.2.1).len, joinP s.2.2.1 (pieceAt l off n s.2.1), _) ⟨by have := hpk.1.len; simp only; omega, by have := hpk.1.len; simp only; omega, hpk.2, by rw [← hs.2.2.2.1]; obtain ⟨k, hk⟩ : ∃ k, s.1 = k + 1 := ⟨s.1 - 1, by omega⟩; rw [hk, piecesGo, if_pos (by assumption)]; rfl, joinP_inv (n := n) hs.2.1 hs.2.2.2.2 hpk.1 rfl⟩ (by simp only; omega) ⟨rfl, rfl, rfl, rfl, rfl, rfl, trivial⟩ rfl
      · refine AQ.exit ?_
        refine AQ.then_e ?_
        refine AQ.then_e ?_
        refine AQ.block_hit ?_
        refine AQ.then_n ?_
        refine AQ.seq ?_
        refine AQ.region ?_
        refine AQ.loadv1 (.plain rfl) rfl 1 rfl rfl ag174 rfl ?_
        refine AQ.assign (.plain rfl) rfl rfl ?_
        refine AQ.nil ?_
        refine AQ.then_n ?_
        refine AQ.ret ?_
        refine AQ.front 1 ?_
        refine AQ.dropN 1 ?_
        refine AQ.front 1 ?_
        refine AQ.dropN 1 ?_
        refine AQ.eqH (H' := _ :: H) rfl ?_
        exact AQ.done1 hJ3 Tryz.results176 rfl ⟨_, rfl, by rw [show pieces l off n = s.2.2.1 from by rw [← hs.2.2.2.1]; cases hk : s.1 with | zero => rfl | succ k => rw [piecesGo, if_neg (by assumption)]]⟩
end Go.Fx
