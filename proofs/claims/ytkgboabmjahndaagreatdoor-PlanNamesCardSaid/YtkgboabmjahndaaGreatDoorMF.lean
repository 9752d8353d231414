/- Rules for walks, pure facts of the program, contracts of its functions: SG SH SI SJ SK SL. -/
import Derived.Test.YtkgboabmjahndaaGreatDoorME
set_option linter.unusedVariables false
set_option linter.unusedSimpArgs false
set_option maxRecDepth 100000
namespace Go.Fx
open Go Go.Proofs

theorem objmapUnpack (l : List UInt8) (H : List HA)  : AC Tryz.prog 211 [bytes l] (H) (fun r' H' => r' = (.tup [ints (unpackV l), B (UnpOk l)]) ∧ H' = H) := by
  refine AC.enter Tryz.func211 rfl Tryz.ntmps211 rfl (fun I0 => ?_)
  refine AQ.seq ?_
  refine AQ.region ?_
  refine AQ.box1 (.plain rfl) rfl .sl rfl (fun b1 => ?_)
  refine AQ.assign (.plain rfl) rfl rfl ?_
  refine AQ.assign (.plain rfl) rfl rfl ?_
  refine AQ.nil ?_
  refine AQ.then_n ?_
  refine AQ.seq ?_
  refine AQ.seq ?_
  refine AQ.region ?_
  refine AQ.loadv1 (.plain rfl) rfl 0 rfl rfl ag28 rfl ?_
  refine AQ.lenz (.plain rfl) (.sl rfl) rfl Tryz.underlying28 (by first | (simp only [List.length_map]; rfl) | rfl) ?_
  refine AQ.lss (.plain rfl) rfl rfl rfl ?_
  refine AQ.nil ?_
  refine AQ.then_n ?_
  refine AQ.cond_d rfl (fun h2 => ?_) (fun h2 => ?_)
  · refine AQ.seq ?_
    refine AQ.region ?_
    refine AQ.assign (.plain rfl) rfl rfl ?_
    refine AQ.assign (.plain rfl) rfl rfl ?_
    refine AQ.nil ?_
    refine AQ.then_n ?_
    refine AQ.ret ?_
    refine AQ.then_r ?_
    refine AQ.nilW (t := 2) (m := 1) rfl ?_
    refine AQ.dropN 1 ?_
    refine AQ.eqH (H' := H) rfl ?_
    exact AQ.doneN (ts := [2, 3]) (Imm.le_refl _) Tryz.results211 rfl rfl ⟨(unp_no (fun hh => by obtain ⟨q1, q2, q3, q4, q5⟩ := hh; omega)), rfl⟩
  · refine AQ.skip ?_
    refine AQ.then_n ?_
    refine AQ.seq ?_
    obtain ⟨x, hx⟩ := lget (l := l) (i := 0) (by omega)
    obtain ⟨y, hy⟩ := lget (l := l) (i := 1) (by omega)
    have hxl := u8_lt x
    refine AQ.weaken (E' := [(0, _), (1, _), (2, _), (3, _), (8, _)]) ⟨rfl, rfl, rfl, rfl, rfl, trivial⟩ ?_
    refine AQ.draw (F0 := _) [.fix none none _] mixed rfl (
      .cons (.fix 9 [] [] [0] _) (fun xs E' F Q' k => AQ.loadv1 (.plain rfl) rfl 0 rfl rfl ag28 rfl (AQ.nil (k (0, undef)))) <|
      .cons (.fix 10 [0] [0] [] _) (fun xs E' F Q' k => AQ.indexAddr (.plain rfl) rfl rfl rfl Tryz.underlying28 ag5 (by omega) (byteRows_getz (x := x) hx) (AQ.nil (k (0, undef)))) <|
      .cons (.fix 11 [0, 1] [1] [] _) (fun xs E' F Q' k => AQ.load1 (.plain rfl) rfl rfl ag5 rfl (AQ.nil (k (0, undef)))) <|
      .cons (.fix 12 [0, 1, 2] [2] [] _) (fun xs E' F Q' k => AQ.conv (.plain rfl) rfl rfl Tryz.underlying5 Tryz.underlying3 (u8_i64 _) (AQ.nil (k (0, undef)))) <|
      .cons (.fix 13 [0, 1, 2, 3] [3] [] _) (fun xs E' F Q' k => AQ.shl (.plain rfl) rfl rfl rfl (by omega) (by simp [IntKind.bits]) (z := (x.toNat : Int) * 256) (by rw [show (2 : Int) ^ (8 : Int).toNat = 256 by decide]; exact i64_id (by omega) (by omega)) (AQ.nil (k (0, undef)))) <|
      .cons (.fix 14 [] [] [0] _) (fun xs E' F Q' k => AQ.loadv1 (.plain rfl) rfl 0 rfl rfl ag28 rfl (AQ.nil (k (0, undef)))) <|
      .cons (.fix 15 [5] [5] [] _) (fun xs E' F Q' k => AQ.indexAddr (.plain rfl) rfl rfl rfl Tryz.underlying28 ag5 (by omega) (byteRows_getz (x := y) hy) (AQ.nil (k (0, undef)))) <|
      .cons (.fix 16 [5, 6] [6] [] _) (fun xs E' F Q' k => AQ.load1 (.plain rfl) rfl rfl ag5 rfl (AQ.nil (k (0, undef)))) <|
      .cons (.fix 17 [5, 6, 7] [7] [] _) (fun xs E' F Q' k => AQ.conv (.plain rfl) rfl rfl Tryz.underlying5 Tryz.underlying3 (u8_i64 _) (AQ.nil (k (0, undef)))) <|
      .cons (.fix 18 [0, 1, 2, 3, 4, 5, 6, 7, 8] [4, 8] [] _) (fun xs E' F Q' k => AQ.bits .or (by simp) (.plain rfl) rfl rfl rfl (i64_join y (by omega) (by omega)) (AQ.nil (k (0, undef)))) <|
      .cons (.fix 4 [0, 1, 2, 3, 4, 5, 6, 7, 8, 9] [9] [] _) (fun xs E' F Q' k => AQ.assign (.plain rfl) rfl rfl (AQ.nil (k (0, undef)))) <|
      .nil) (by kernel_rfl) (by kernel_rfl) (fun x3 => ?_)
    refine AQ.eqv (t := 4) (u := .int .i64 (unpN l : Int)) rfl (by rw [unpN_of hx hy]) ?_
    refine AQ.then_n ?_
    refine AQ.seq ?_
    refine AQ.seq ?_
    refine AQ.region ?_
    refine AQ.move (.plain rfl) rfl rfl ?_
    refine AQ.gtr (.plain rfl) rfl rfl rfl ?_
    refine AQ.move (.plain rfl) rfl rfl ?_
    refine AQ.split (t := 21) rfl (fun h4 => ?_) (fun h4 => ?_)
    · refine AQ.off rfl rfl rfl rfl ?_
      refine AQ.off rfl rfl rfl rfl ?_
      refine AQ.off rfl rfl rfl rfl ?_
      refine AQ.off rfl rfl rfl rfl ?_
      refine AQ.off rfl rfl rfl rfl ?_
      refine AQ.off rfl rfl rfl rfl ?_
      refine AQ.off rfl rfl rfl rfl ?_
      refine AQ.pick_t (.plain rfl) rfl rfl rfl ?_
      refine AQ.nil ?_
      refine AQ.then_n ?_
      refine AQ.cond_t rfl ?_
      refine AQ.seq ?_
      refine AQ.region ?_
      refine AQ.assign (.plain rfl) rfl rfl ?_
      refine AQ.assign (.plain rfl) rfl rfl ?_
      refine AQ.nil ?_
      refine AQ.then_n ?_
      refine AQ.ret ?_
      refine AQ.then_r ?_
      refine AQ.nilW (t := 2) (m := 1) rfl ?_
      refine AQ.dropN 1 ?_
      refine AQ.eqH (H' := H) rfl ?_
      exact AQ.doneN (ts := [2, 3]) (Imm.le_refl _) Tryz.results211 rfl rfl ⟨(unp_no (fun hh => by obtain ⟨q1, q2, q3, q4, q5⟩ := hh; omega)), rfl⟩
    · refine AQ.loadv1 (.on rfl rfl rfl) rfl 0 rfl rfl ag28 rfl ?_
      refine AQ.lenz (.on rfl rfl rfl) (.sl rfl) rfl Tryz.underlying28 (by first | (simp only [List.length_map]; rfl) | rfl) ?_
      refine AQ.move (.on rfl rfl rfl) rfl rfl ?_
      refine AQ.add (.on rfl rfl rfl) rfl rfl rfl (i64_id (by omega) (by omega)) ?_
      refine AQ.quo (.on rfl rfl rfl) rfl rfl rfl (by omega) (tdiv_pos (by omega) (by omega) (by omega)) ?_
      refine AQ.add (.on rfl rfl rfl) rfl rfl rfl (i64_id (by omega) (by omega)) ?_
      refine AQ.neq (.on rfl rfl rfl) rfl rfl rfl ?_
      refine AQ.pick_f (.plain rfl) rfl rfl rfl ?_
      refine AQ.nil ?_
      refine AQ.then_n ?_
      refine AQ.cond_d rfl (fun h5 => ?_) (fun h5 => ?_)
      · refine AQ.seq ?_
        refine AQ.region ?_
        refine AQ.assign (.plain rfl) rfl rfl ?_
        refine AQ.assign (.plain rfl) rfl rfl ?_
        refine AQ.nil ?_
        refine AQ.then_n ?_
        refine AQ.ret ?_
        refine AQ.then_r ?_
        refine AQ.nilW (t := 2) (m := 1) rfl ?_
        refine AQ.dropN 1 ?_
        refine AQ.eqH (H' := H) rfl ?_
        exact AQ.doneN (ts := [2, 3]) (Imm.le_refl _) Tryz.results211 rfl rfl ⟨(unp_no (fun hh => by obtain ⟨q1, q2, q3, q4, q5⟩ := hh; omega)), rfl⟩
      · refine AQ.skip ?_
        refine AQ.then_n ?_
        refine AQ.seq ?_
        refine AQ.region ?_
        refine AQ.move (.plain rfl) rfl rfl ?_
        refine AQ.add (.plain rfl) rfl rfl rfl (i64_id (by omega) (by omega)) ?_
        refine AQ.quo (.plain rfl) rfl rfl rfl (by omega) (tdiv_pos (by omega) (by omega) (by omega)) ?_
        refine AQ.mul (.plain rfl) rfl rfl rfl (i64_id (by omega) (by omega)) ?_
        refine AQ.makeFunc (fs := []) (cs := [_]) (.plain rfl) rfl rfl rfl ?_
        refine AQ.callo (.plain rfl) rfl rfl en201 (objmapEach (((unpN l : Int) + 3) / 4 * 4) 246 [] [_] (unpAt l) [.box b1 28 [bytes l]] H (by omega) (by omega) en246 (fun i H hi => objmapUnpack1 _ _ _ H (by omega) (by omega))) (fun v6 => ?_)
        rw [show (((unpN l : Int) + 3) / 4 * 4).toNat = (unpN l + 3) / 4 * 4 by omega, show (List.range ((unpN l + 3) / 4 * 4)).map (unpAt l) = unpM l from rfl]
        refine AQ.assign (.plain rfl) rfl rfl ?_
        refine AQ.nil ?_
        refine AQ.then_n ?_
        refine AQ.seq ?_
        refine AQ.seq ?_
        refine AQ.region ?_
        refine AQ.move (.plain rfl) rfl rfl ?_
        refine AQ.move (.plain rfl) rfl rfl ?_
        refine AQ.freeze 0 rfl (fun J7 hJ7 hp7 => ?_)
        refine AQ.as (t := 36) rfl hp7 ?_
        refine AQ.cutFrom (.plain rfl) rfl rfl rfl Tryz.underlying38 ag3 (by omega) (by simp only [List.length_map]; rw [unpM_len]; omega) ?_
        rw [Int.toNat_natCast, ← List.map_drop]
        refine AQ.callf (.plain rfl) rfl rfl en243 (containsInts ((unpM l).drop (unpN l)) 247 [] [] (fun x => decide (x ≠ 0)) [] _ en247 (fun x H _ => objmapUnpack2 x H)) ?_
        refine AQ.move (.plain rfl) rfl rfl ?_
        refine AQ.split (t := 40) rfl (fun h8 => ?_) (fun h8 => ?_)
        · refine AQ.off rfl rfl rfl rfl ?_
          refine AQ.off rfl rfl rfl rfl ?_
          refine AQ.off rfl rfl rfl rfl ?_
          refine AQ.off rfl rfl rfl rfl ?_
          refine AQ.off rfl rfl rfl rfl ?_
          refine AQ.pick_t (.plain rfl) rfl rfl rfl ?_
          refine AQ.nil ?_
          refine AQ.then_n ?_
          refine AQ.cond_t rfl ?_
          refine AQ.seq ?_
          refine AQ.region ?_
          refine AQ.assign (.plain rfl) rfl rfl ?_
          refine AQ.assign (.plain rfl) rfl rfl ?_
          refine AQ.nil ?_
          refine AQ.then_n ?_
          refine AQ.ret ?_
          refine AQ.then_r ?_
          refine AQ.nilW (t := 2) (m := 1) rfl ?_
          refine AQ.dropN 1 ?_
          refine AQ.eqH (H' := H) rfl ?_
          exact AQ.doneN (ts := [2, 3]) hJ7 Tryz.results211 rfl rfl ⟨(unp_no (fun hh => by have hz := idx_zero.2 hh.2.2.2.1; first | omega | (revert hz; assumption) | simp_all)), rfl⟩
        · refine AQ.move (.on rfl rfl rfl) rfl rfl ?_
          refine AQ.move (.on rfl rfl rfl) rfl rfl ?_
          refine AQ.as (t := 41) rfl hp7 ?_
          refine AQ.cutTo (.on rfl rfl rfl) rfl rfl rfl Tryz.underlying38 ag3 (by omega) (by simp only [List.length_map]; rw [unpM_len]; omega) ?_
          rw [Int.toNat_natCast, ← List.map_take]
          refine AQ.callf (.on rfl rfl rfl) rfl rfl en195 (objmapCheck _ _) ?_
          refine AQ.not_d (.on rfl rfl rfl) rfl rfl ?_
          refine AQ.pick_f (.plain rfl) rfl rfl rfl ?_
          refine AQ.nil ?_
          refine AQ.then_n ?_
          refine AQ.cond_d rfl (fun h9 => ?_) (fun h9 => ?_)
          · refine AQ.seq ?_
            refine AQ.region ?_
            refine AQ.assign (.plain rfl) rfl rfl ?_
            refine AQ.assign (.plain rfl) rfl rfl ?_
            refine AQ.nil ?_
            refine AQ.then_n ?_
            refine AQ.ret ?_
            refine AQ.then_r ?_
            refine AQ.nilW (t := 2) (m := 1) rfl ?_
            refine AQ.dropN 1 ?_
            refine AQ.eqH (H' := H) rfl ?_
            exact AQ.doneN (ts := [2, 3]) hJ7 Tryz.results211 rfl rfl ⟨(unp_no (fun hh => absurd hh.2.2.2.2 (by assumption))), rfl⟩
          · refine AQ.skip ?_
            refine AQ.then_n ?_
            refine AQ.seq ?_
            refine AQ.region ?_
            refine AQ.move (.plain rfl) rfl rfl ?_
            refine AQ.move (.plain rfl) rfl rfl ?_
            refine AQ.move (.plain rfl) rfl rfl ?_
            refine AQ.as (t := 47) rfl hp7 ?_
            refine AQ.cut3 (.plain rfl) rfl rfl rfl rfl Tryz.underlying38 ag3 (by omega) (by simp only [List.length_map]; rw [unpM_len]; omega) ?_
            rw [Int.toNat_natCast, ← List.map_take]
            refine AQ.assign (.plain rfl) rfl rfl ?_
            refine AQ.assign (.plain rfl) rfl rfl ?_
            refine AQ.nil ?_
            refine AQ.then_n ?_
            refine AQ.ret ?_
            refine AQ.dropN 1 ?_
            refine AQ.eqH (H' := H) rfl ?_
            exact AQ.doneN (ts := [2, 3]) hJ7 Tryz.results211 rfl rfl ⟨(unp_yes ⟨by omega, by omega, by omega, idx_zero.1 (by assumption), Decidable.not_not.1 (by assumption)⟩), rfl⟩
theorem stripeMay (l : Layout) (ns : List Int) (H : List HA)  : AC Tryz.prog 203 [.agg l.cells, ints ns] (H) (fun r' H' => r' = (B ((∀ n ∈ ns, inFar n) ∧ l.May)) ∧ H' = H) := by
  refine AC.enter Tryz.func203 rfl Tryz.ntmps203 rfl (fun I0 => ?_)
  refine AQ.slB (t := 1) rfl (fun z1 => ?_)
  simp only [List.length_map] at z1
  refine AQ.seq ?_
  refine AQ.region ?_
  refine AQ.boxA (.plain rfl) rfl rfl (fun b1 => ?_)
  refine AQ.assign (.plain rfl) rfl rfl ?_
  refine AQ.nil ?_
  refine AQ.then_n ?_
  refine AQ.seq ?_
  refine AQ.seq ?_
  refine AQ.region ?_
  refine AQ.move (.plain rfl) rfl rfl ?_
  refine AQ.lenz (.plain rfl) (.sl rfl) rfl Tryz.underlying38 (by first | (simp only [List.length_map]; rfl) | rfl) ?_
  refine AQ.move (.plain rfl) rfl rfl ?_
  refine AQ.nil ?_
  refine AQ.then_n ?_
  refine AQ.block ?_
  refine AQ.loop (σ := Nat) (fun s => [(2, .val (.pointer (some ⟨b1, 0, none⟩))), (7, ints ns), (8, I (ns.length : Int)), (9, I (s : Int))]) (fun s => .box b1 37 l.cells :: H) (fun s => s ≤ ns.length ∧ ∀ y ∈ ns.take s, inFar y) (fun s => ns.length - s) 0 (by simp) ⟨rfl, rfl, rfl, rfl, trivial⟩ rfl (fun s hs => ?_)
  refine AQ.seq ?_
  refine AQ.region ?_
  refine AQ.lss (.plain rfl) rfl rfl rfl ?_
  refine AQ.nil ?_
  refine AQ.then_n ?_
  refine AQ.seq ?_
  refine AQ.cond_d rfl (fun h2 => ?_) (fun h2 => ?_)
  · refine AQ.skip ?_
    refine AQ.then_n ?_
    refine AQ.seq ?_
    refine AQ.block ?_
    refine AQ.seq ?_
    refine AQ.region ?_
    obtain ⟨x, hx⟩ := lgetz (l := ns) (z := (s : Int)) (by omega) (by omega)
    refine AQ.indexAddr (.plain rfl) rfl rfl rfl Tryz.underlying38 ag3 (by omega) (intRows_getz hx) ?_
    rw [Int.toNat_natCast] at hx
    refine AQ.load1 (.plain rfl) rfl rfl ag3 rfl ?_
    refine AQ.assign (.plain rfl) rfl rfl ?_
    refine AQ.nil ?_
    refine AQ.then_n ?_
    refine AQ.block ?_
    refine AQ.seq ?_
    refine AQ.block ?_
    refine AQ.block ?_
    refine AQ.seq ?_
    refine AQ.seq ?_
    refine AQ.seq ?_
    refine AQ.region ?_
    refine AQ.move (.plain rfl) rfl rfl ?_
    refine AQ.lss (.plain rfl) rfl rfl rfl ?_
    refine AQ.assign (.plain rfl) rfl rfl ?_
    refine AQ.nil ?_
    refine AQ.then_n ?_
    refine AQ.cond_d rfl (fun h3 => ?_) (fun h3 => ?_)
    · refine AQ.exit ?_
      refine AQ.then_e ?_
      refine AQ.then_e ?_
      refine AQ.block_hit ?_
      refine AQ.block_n ?_
      refine AQ.then_n ?_
      refine AQ.seq ?_
      refine AQ.seq ?_
      refine AQ.region ?_
      refine AQ.assign (.plain rfl) rfl rfl ?_
      refine AQ.nil ?_
      refine AQ.then_n ?_
      refine AQ.ret ?_
      refine AQ.then_r ?_
      refine AQ.block_r ?_
      refine AQ.block_r ?_
      refine AQ.then_r ?_
      refine AQ.then_r ?_
      refine AQ.block_r ?_
      refine AQ.then_r ?_
      refine AQ.dropN 1 ?_
      refine AQ.eqH (H' := H) rfl ?_
      exact AQ.done1 (Imm.le_refl _) Tryz.results203 rfl ⟨(by first | exact B_f (fun hh => by have := hh.1 x (List.mem_of_getElem? hx); unfold inFar at this; omega) | exact far_end hs.2 (by omega)), rfl⟩
    · refine AQ.skip ?_
      refine AQ.then_n ?_
      refine AQ.seq ?_
      refine AQ.region ?_
      refine AQ.move (.plain rfl) rfl rfl ?_
      refine AQ.gtr (.plain rfl) rfl rfl rfl ?_
      refine AQ.assign (.plain rfl) rfl rfl ?_
      refine AQ.nil ?_
      refine AQ.then_n ?_
      refine AQ.cond_d rfl (fun h4 => ?_) (fun h4 => ?_)
      · refine AQ.exit ?_
        refine AQ.then_e ?_
        refine AQ.block_miss rfl ?_
        refine AQ.block_hit ?_
        refine AQ.then_n ?_
        refine AQ.seq ?_
        refine AQ.seq ?_
        refine AQ.region ?_
        refine AQ.assign (.plain rfl) rfl rfl ?_
        refine AQ.nil ?_
        refine AQ.then_n ?_
        refine AQ.ret ?_
        refine AQ.then_r ?_
        refine AQ.block_r ?_
        refine AQ.block_r ?_
        refine AQ.then_r ?_
        refine AQ.then_r ?_
        refine AQ.block_r ?_
        refine AQ.then_r ?_
        refine AQ.dropN 1 ?_
        refine AQ.eqH (H' := H) rfl ?_
        exact AQ.done1 (Imm.le_refl _) Tryz.results203 rfl ⟨(by first | exact B_f (fun hh => by have := hh.1 x (List.mem_of_getElem? hx); unfold inFar at this; omega) | exact far_end hs.2 (by omega)), rfl⟩
      · refine AQ.skip ?_
        refine AQ.then_n ?_
        refine AQ.exit ?_
        refine AQ.block_miss rfl ?_
        refine AQ.block_miss rfl ?_
        refine AQ.then_e ?_
        refine AQ.block_hit ?_
        refine AQ.block_n ?_
        refine AQ.then_n ?_
        refine AQ.region ?_
        refine AQ.add (.plain rfl) rfl rfl rfl (i64_id (by omega) (by omega)) ?_
        refine AQ.move (.plain rfl) rfl rfl ?_
        refine AQ.nil ?_
        exact AQ.again (Imm.le_refl _) (s + 1) ⟨by omega, far_more hx (by unfold inFar; omega) hs.2⟩ (by omega) ⟨rfl, rfl, rfl, rfl, trivial⟩ rfl
  · refine AQ.exit ?_
    refine AQ.then_e ?_
    refine AQ.then_e ?_
    refine AQ.block_hit ?_
    refine AQ.then_n ?_
    refine AQ.seq ?_
    refine AQ.region ?_
    refine AQ.loadvA (.plain rfl) rfl 0 rfl rfl ag37 rfl rfl ?_
    refine AQ.callf (.plain rfl) rfl rfl en122 (stripeCheck _ _) ?_
    refine AQ.eql (.plain rfl) rfl rfl rfl ?_
    refine AQ.assign (.plain rfl) rfl rfl ?_
    refine AQ.nil ?_
    refine AQ.then_n ?_
    refine AQ.ret ?_
    refine AQ.dropN 1 ?_
    refine AQ.eqH (H' := H) rfl ?_
    exact AQ.done1 (Imm.le_refl _) Tryz.results203 rfl ⟨(by first | exact B_f (fun hh => by have := hh.1 x (List.mem_of_getElem? hx); unfold inFar at this; omega) | exact far_end hs.2 (by omega)), rfl⟩
end Go.Fx
set_option linter.unusedVariables false
set_option linter.unusedSimpArgs false
set_option maxRecDepth 100000
namespace Go.Fx
open Go Go.Proofs

theorem objmapPack (m : List Int) (H : List HA)  : AC Tryz.prog 140 [ints m] (H) (fun r H' => ∃ v, r = .val v ∧ H' = .osl v 5 1 (byteRows (mapB m)) :: H) := by
  refine AC.enter Tryz.func140 rfl Tryz.ntmps140 rfl (fun I0 => ?_)
  have hr := rowL_len m
  refine AQ.seq ?_
  refine AQ.region ?_
  refine AQ.assign (.plain rfl) rfl rfl ?_
  refine AQ.nil ?_
  refine AQ.then_n ?_
  refine AQ.seq ?_
  refine AQ.region ?_
  refine AQ.move (.plain rfl) rfl rfl ?_
  refine AQ.callo (.plain rfl) rfl rfl en199 (objmapRow _ _) (fun v1 => ?_)
  refine AQ.assign (.plain rfl) rfl rfl ?_
  refine AQ.nil ?_
  refine AQ.then_n ?_
  refine AQ.seq ?_
  refine AQ.region ?_
  refine AQ.move (.plain rfl) rfl rfl ?_
  refine AQ.lenz (.plain rfl) (.osl rfl 0 rfl) rfl Tryz.underlying38 (by first | (simp only [List.length_map]; rfl) | rfl) ?_
  refine AQ.add (.plain rfl) rfl rfl rfl (i64_id (by omega) (by omega)) ?_
  refine AQ.quo (.plain rfl) rfl rfl rfl (by omega) (tdiv_pos (by omega) (by omega) (by omega)) ?_
  refine AQ.add (.plain rfl) rfl rfl rfl (i64_id (by omega) (by omega)) ?_
  refine AQ.makeSlice (.plain rfl) rfl rfl rfl Tryz.underlying28 el5 zo5 rfl rfl (by omega) (by omega) (by omega) (fun v2 => ?_)
  rw [rep_bytes]
  refine AQ.assign (.plain rfl) rfl rfl ?_
  refine AQ.nil ?_
  refine AQ.then_n ?_
  refine AQ.seq ?_
  refine AQ.region ?_
  refine AQ.move (.plain rfl) rfl rfl ?_
  refine AQ.move (.plain rfl) rfl rfl ?_
  refine AQ.move (.plain rfl) rfl rfl ?_
  refine AQ.lenz (.plain rfl) (.osl rfl 1 rfl) rfl Tryz.underlying38 (by first | (simp only [List.length_map]; rfl) | rfl) ?_
  refine AQ.shr (.plain rfl) rfl rfl rfl (by omega) (by simp [IntKind.bits]) ?_
  refine AQ.conv (.plain rfl) rfl rfl Tryz.underlying3 Tryz.underlying5 (b8_wrap _) ?_
  refine AQ.move (.plain rfl) rfl rfl ?_
  refine AQ.lenz (.plain rfl) (.osl rfl 1 rfl) rfl Tryz.underlying38 (by first | (simp only [List.length_map]; rfl) | rfl) ?_
  refine AQ.conv (.plain rfl) rfl rfl Tryz.underlying3 Tryz.underlying5 (b8_wrap _) ?_
  obtain ⟨x0, hx0⟩ := lgetz (l := (List.replicate (2 + (((rowL m).length : Int) + 3) / 4).toNat (0 : UInt8))) (z := 0) (by omega) (by rw [List.length_replicate]; omega)
  refine AQ.indexo (.plain rfl) rfl 0 rfl rfl rfl Tryz.underlying28 ag5 (by omega) (by simp only [List.length_map, List.length_replicate]; omega) ?_
  refine AQ.storeo1 (.plain rfl) rfl 0 rfl _ 0 rfl (byteRows_getz hx0) rfl rfl (.val rfl) ag5 ?_
  try simp only [List.set_cons_zero, List.set_cons_succ, intRows_set, byteRows_set]
  obtain ⟨x1, hx1⟩ := lgetz (l := ((List.replicate (2 + (((rowL m).length : Int) + 3) / 4).toNat (0 : UInt8)).set (0 : Int).toNat (b8 (((rowL m).length : Int) / 2 ^ (8 : Int).toNat)))) (z := 1) (by omega) (by rw [List.length_set, List.length_replicate]; omega)
  refine AQ.indexo (.plain rfl) rfl 0 rfl rfl rfl Tryz.underlying28 ag5 (by omega) (by simp only [List.length_map, List.length_set, List.length_replicate]; omega) ?_
  refine AQ.storeo1 (.plain rfl) rfl 0 rfl _ 0 rfl (byteRows_getz hx1) rfl rfl (.val rfl) ag5 ?_
  try simp only [List.set_cons_zero, List.set_cons_succ, intRows_set, byteRows_set]
  refine AQ.nil ?_
  refine AQ.then_n ?_
  refine AQ.seq ?_
  refine AQ.seq ?_
  refine AQ.region ?_
  refine AQ.move (.plain rfl) rfl rfl ?_
  refine AQ.lenz (.plain rfl) (.osl rfl 1 rfl) rfl Tryz.underlying38 (by first | (simp only [List.length_map]; rfl) | rfl) ?_
  refine AQ.move (.plain rfl) rfl rfl ?_
  refine AQ.nil ?_
  refine AQ.then_n ?_
  refine AQ.block ?_
  refine AQ.loop (σ := Nat) (fun s => [(3, .val v1), (4, .val v2), (26, .val v1), (27, I ((rowL m).length : Int)), (28, I (s : Int))]) (fun s => .osl v2 5 1 (byteRows (packSt (rowL m) s)) :: .osl v1 3 1 (intRows (rowL m)) :: H) (fun s => s ≤ (rowL m).length) (fun s => (rowL m).length - s) 0 (by simp) ⟨rfl, rfl, rfl, rfl, rfl, trivial⟩ rfl (fun s hs => ?_)
  refine AQ.seq ?_
  refine AQ.region ?_
  refine AQ.lss (.plain rfl) rfl rfl rfl ?_
  refine AQ.nil ?_
  refine AQ.then_n ?_
  refine AQ.seq ?_
  refine AQ.cond_d rfl (fun h3 => ?_) (fun h3 => ?_)
  · refine AQ.skip ?_
    refine AQ.then_n ?_
    refine AQ.seq ?_
    refine AQ.block ?_
    refine AQ.seq ?_
    refine AQ.region ?_
    refine AQ.move (.plain rfl) rfl rfl ?_
    obtain ⟨y, hy⟩ := lgetz (l := (rowL m)) (z := (s : Int)) (by omega) (by omega)
    refine AQ.indexo (.plain rfl) rfl 1 rfl rfl rfl Tryz.underlying38 ag3 (by omega) (by simp only [List.length_map]; omega) ?_
    refine AQ.loado1 (.plain rfl) rfl 1 rfl _ 0 rfl (intRows_getz hy) rfl rfl ag3  ?_
    refine AQ.assign (.plain rfl) rfl rfl ?_
    refine AQ.assign (.plain rfl) rfl rfl ?_
    refine AQ.nil ?_
    have hyr := rowL_right y (List.mem_of_getElem? hy)
    have hys := shl_range (s := s) hyr
    rw [Int.toNat_natCast] at hy
    refine AQ.then_n ?_
    refine AQ.region ?_
    refine AQ.move (.plain rfl) rfl rfl ?_
    refine AQ.move (.plain rfl) rfl rfl ?_
    refine AQ.quo (.plain rfl) rfl rfl rfl (by omega) (tdiv_pos (by omega) (by omega) (by omega)) ?_
    refine AQ.add (.plain rfl) rfl rfl rfl (i64_id (by omega) (by omega)) ?_
    obtain ⟨x, hx⟩ := lgetz (l := (packSt (rowL m) s)) (z := (2 + (s : Int) / 4)) (by omega) (by rw [packSt_len]; omega)
    refine AQ.indexo (.plain rfl) rfl 0 rfl rfl rfl Tryz.underlying28 ag5 (by omega) (by simp only [List.length_map]; rw [packSt_len]; omega) ?_
    refine AQ.loado1 (.plain rfl) rfl 0 rfl _ 0 rfl (byteRows_getz hx) rfl rfl ag5  ?_
    refine AQ.move (.plain rfl) rfl rfl ?_
    refine AQ.move (.plain rfl) rfl rfl ?_
    refine AQ.rem (.plain rfl) rfl rfl rfl (by omega) (tmod_pos (by omega)) ?_
    refine AQ.mul (.plain rfl) rfl rfl rfl (i64_id (by omega) (by omega)) ?_
    refine AQ.conv (.plain rfl) rfl rfl Tryz.underlying3 Tryz.underlying211 (u64_id (by omega) (by omega)) ?_
    refine AQ.shl (.plain rfl) rfl rfl rfl (by omega) (by simp [IntKind.bits]; omega) (i64_id (by omega) (by omega)) ?_
    refine AQ.conv (.plain rfl) rfl rfl Tryz.underlying3 Tryz.underlying5 (b8_wrap _) ?_
    refine AQ.bits .or (by simp) (.plain rfl) rfl rfl rfl (u8_or_b _ _) ?_
    refine AQ.indexo (.plain rfl) rfl 0 rfl rfl rfl Tryz.underlying28 ag5 (by omega) (by simp only [List.length_map]; rw [packSt_len]; omega) ?_
    refine AQ.storeo1 (.plain rfl) rfl 0 rfl _ 0 rfl (byteRows_getz hx) rfl rfl (.val rfl) ag5 ?_
    try simp only [List.set_cons_zero, List.set_cons_succ, intRows_set, byteRows_set]
    refine AQ.nil ?_
    refine AQ.block_n ?_
    refine AQ.then_n ?_
    refine AQ.region ?_
    refine AQ.add (.plain rfl) rfl rfl rfl (i64_id (by omega) (by omega)) ?_
    refine AQ.move (.plain rfl) rfl rfl ?_
    refine AQ.nil ?_
    exact AQ.again (Imm.le_refl _) (s + 1) (by omega) (by omega) ⟨rfl, rfl, rfl, rfl, rfl, trivial⟩ (by rw [packSt_step hx hy])
  · refine AQ.exit ?_
    refine AQ.then_e ?_
    refine AQ.then_e ?_
    refine AQ.block_hit ?_
    refine AQ.then_n ?_
    refine AQ.seq ?_
    refine AQ.region ?_
    refine AQ.move (.plain rfl) rfl rfl ?_
    refine AQ.assign (.plain rfl) rfl rfl ?_
    refine AQ.nil ?_
    refine AQ.then_n ?_
    refine AQ.ret ?_
    refine AQ.front 1 ?_
    refine AQ.dropN 1 ?_
    refine AQ.eqH (H' := _ :: H) rfl ?_
    exact AQ.done1 (Imm.le_refl _) Tryz.results140 rfl ⟨_, rfl, by rw [show s = (rowL m).length by omega]; rfl⟩
theorem stripeObjects (l : Layout) (size : Int) (H : List HA)  : AC Tryz.prog 196 [.agg l.cells, I size] (H) (fun r' H' => r' = (I (objN l size)) ∧ H' = H) := by
  refine AC.enter Tryz.func196 rfl Tryz.ntmps196 rfl (fun I0 => ?_)
  refine AQ.seq ?_
  refine AQ.region ?_
  refine AQ.boxA (.plain rfl) rfl rfl (fun b1 => ?_)
  refine AQ.assign (.plain rfl) rfl rfl ?_
  refine AQ.nil ?_
  refine AQ.then_n ?_
  refine AQ.seq ?_
  refine AQ.seq ?_
  refine AQ.region ?_
  refine AQ.loadvA (.plain rfl) rfl 0 rfl rfl ag37 rfl rfl ?_
  refine AQ.move (.plain rfl) rfl rfl ?_
  refine AQ.buildSlice (rows := [[_]]) (.plain rfl) rfl Tryz.underlying38 el3 zo3 rfl rfl rfl (.one rfl (.val rfl) rfl rfl .nil) rfl rfl (by simp) (fun u2 => ?_)
  refine AQ.freeze 0 rfl (fun J3 hJ3 hp3 => ?_)
  refine AQ.as (t := 9) rfl hp3 ?_
  refine AQ.callf (.plain rfl) rfl rfl en203 (stripeMay l [size] _) ?_
  refine AQ.not_d (.plain rfl) rfl rfl ?_
  refine AQ.move (.plain rfl) rfl rfl ?_
  refine AQ.split (t := 12) rfl (fun h4 => ?_) (fun h4 => ?_)
  · refine AQ.off rfl rfl rfl rfl ?_
    refine AQ.off rfl rfl rfl rfl ?_
    refine AQ.pick_t (.plain rfl) rfl rfl rfl ?_
    refine AQ.move (.plain rfl) rfl rfl ?_
    refine AQ.off rfl rfl rfl rfl ?_
    refine AQ.off rfl rfl rfl rfl ?_
    refine AQ.pick_t (.plain rfl) rfl rfl rfl ?_
    refine AQ.nil ?_
    refine AQ.then_n ?_
    refine AQ.cond_t rfl ?_
    refine AQ.seq ?_
    refine AQ.region ?_
    refine AQ.assign (.plain rfl) rfl rfl ?_
    refine AQ.nil ?_
    refine AQ.then_n ?_
    refine AQ.ret ?_
    refine AQ.then_r ?_
    refine AQ.dropN 1 ?_
    refine AQ.eqH (H' := H) rfl ?_
    exact AQ.done1 hJ3 Tryz.results196 rfl ⟨(I_c (by unfold objN; first | exact if_t ⟨hs, hm.2, by omega, by omega⟩ | exact if_f (fun hh => by first | omega | exact absurd (show (∀ n ∈ [size], inFar n) ∧ l.May from ⟨by simpa using hh.1, hh.2.1⟩) (by assumption)))), rfl⟩
  · refine AQ.move (.on rfl rfl rfl) rfl rfl ?_
    refine AQ.eql (.on rfl rfl rfl) rfl rfl rfl ?_
    refine AQ.pick_f (.plain rfl) rfl rfl rfl ?_
    refine AQ.move (.plain rfl) rfl rfl ?_
    refine AQ.split (t := 16) rfl (fun h5 => ?_) (fun h5 => ?_)
    · refine AQ.off rfl rfl rfl rfl ?_
      refine AQ.off rfl rfl rfl rfl ?_
      refine AQ.pick_t (.plain rfl) rfl rfl rfl ?_
      refine AQ.nil ?_
      refine AQ.then_n ?_
      refine AQ.cond_t rfl ?_
      refine AQ.seq ?_
      refine AQ.region ?_
      refine AQ.assign (.plain rfl) rfl rfl ?_
      refine AQ.nil ?_
      refine AQ.then_n ?_
      refine AQ.ret ?_
      refine AQ.then_r ?_
      refine AQ.dropN 1 ?_
      refine AQ.eqH (H' := H) rfl ?_
      exact AQ.done1 hJ3 Tryz.results196 rfl ⟨(I_c (by unfold objN; first | exact if_t ⟨hs, hm.2, by omega, by omega⟩ | exact if_f (fun hh => by first | omega | exact absurd (show (∀ n ∈ [size], inFar n) ∧ l.May from ⟨by simpa using hh.1, hh.2.1⟩) (by assumption)))), rfl⟩
    · refine AQ.move (.on rfl rfl rfl) rfl rfl ?_
      refine AQ.gtr (.on rfl rfl rfl) rfl rfl rfl ?_
      refine AQ.pick_f (.plain rfl) rfl rfl rfl ?_
      refine AQ.nil ?_
      refine AQ.then_n ?_
      refine AQ.cond_d rfl (fun h6 => ?_) (fun h6 => ?_)
      · refine AQ.seq ?_
        refine AQ.region ?_
        refine AQ.assign (.plain rfl) rfl rfl ?_
        refine AQ.nil ?_
        refine AQ.then_n ?_
        refine AQ.ret ?_
        refine AQ.then_r ?_
        refine AQ.dropN 1 ?_
        refine AQ.eqH (H' := H) rfl ?_
        exact AQ.done1 hJ3 Tryz.results196 rfl ⟨(I_c (by unfold objN; first | exact if_t ⟨hs, hm.2, by omega, by omega⟩ | exact if_f (fun hh => by first | omega | exact absurd (show (∀ n ∈ [size], inFar n) ∧ l.May from ⟨by simpa using hh.1, hh.2.1⟩) (by assumption)))), rfl⟩
      · refine AQ.skip ?_
        refine AQ.then_n ?_
        refine AQ.seq ?_
        refine AQ.region ?_
        have hm : (∀ n ∈ [size], inFar n) ∧ l.May := Decidable.not_not.1 (by assumption)
        have hs := hm.1 size (by simp)
        unfold inFar at hs
        have q := hm.2
        obtain ⟨q1, q2, q3, q4, q5, q6⟩ := q
        obtain ⟨f1, f2, f3, f4, f5, f6, f7, f8, f9, f10⟩ := placeFacts hm.2 (off := size + l.u - 1) (by omega)
        refine AQ.move (.plain rfl) rfl rfl ?_
        refine AQ.fieldv (.plain rfl) rfl rfl fo37_0 rfl ?_
        refine AQ.loadv1 (.plain rfl) rfl 0 rfl rfl ag3 rfl ?_
        refine AQ.add (.plain rfl) rfl rfl rfl (i64_id (by omega) (by omega)) ?_
        refine AQ.sub (.plain rfl) rfl rfl rfl (i64_id (by omega) (by omega)) ?_
        refine AQ.fieldv (.plain rfl) rfl rfl fo37_0 rfl ?_
        refine AQ.loadv1 (.plain rfl) rfl 0 rfl rfl ag3 rfl ?_
        refine AQ.quo (.plain rfl) rfl rfl rfl (by omega) (tdiv_pos (by omega) (by omega) (by omega)) ?_
        refine AQ.assign (.plain rfl) rfl rfl ?_
        refine AQ.nil ?_
        refine AQ.then_n ?_
        refine AQ.seq ?_
        refine AQ.weaken (E' := [(0, _), (1, _), (2, _), (4, _), (19, _), (5, _)]) ⟨rfl, rfl, rfl, rfl, rfl, rfl, trivial⟩ ?_
        refine AQ.draw (F0 := _) [.fix none none _] mixed rfl (
          .cons (.fix 28 [] [] [] _) (fun xs E' F Q' k => AQ.fieldv (.plain rfl) rfl rfl fo37_2 rfl (AQ.nil (k (0, undef)))) <|
          .cons (.fix 29 [0] [0] [0] _) (fun xs E' F Q' k => AQ.loadv1 (.plain rfl) rfl 0 rfl rfl ag3 rfl (AQ.nil (k (0, undef)))) <|
          .cons (.fix 30 [] [] [] _) (fun xs E' F Q' k => AQ.fieldv (.plain rfl) rfl rfl fo37_0 rfl (AQ.nil (k (0, undef)))) <|
          .cons (.fix 31 [2] [2] [0] _) (fun xs E' F Q' k => AQ.loadv1 (.plain rfl) rfl 0 rfl rfl ag3 rfl (AQ.nil (k (0, undef)))) <|
          .cons (.fix 32 [0, 1, 2, 3] [1, 3] [] _) (fun xs E' F Q' k => AQ.quo (.plain rfl) rfl rfl rfl (by omega) (tdiv_pos (by omega) (by omega) (by omega)) (AQ.nil (k (0, undef)))) <|
          .cons (.fix 33 [] [] [] _) (fun xs E' F Q' k => AQ.fieldv (.plain rfl) rfl rfl fo37_1 rfl (AQ.nil (k (0, undef)))) <|
          .cons (.fix 34 [5] [5] [0] _) (fun xs E' F Q' k => AQ.loadv1 (.plain rfl) rfl 0 rfl rfl ag3 rfl (AQ.nil (k (0, undef)))) <|
          .cons (.fix 35 [0, 1, 2, 3, 4, 5, 6] [4, 6] [] _) (fun xs E' F Q' k => AQ.mul (.plain rfl) rfl rfl rfl (i64_id (by omega) (by omega)) (AQ.nil (k (0, undef)))) <|
          .cons (.fix 6 [0, 1, 2, 3, 4, 5, 6, 7] [7] [] _) (fun xs E' F Q' k => AQ.assign (.plain rfl) rfl rfl (AQ.nil (k (0, undef)))) <|
          .nil) (by kernel_rfl) (by kernel_rfl) (fun x7 => ?_)
        refine AQ.then_n ?_
        refine AQ.seq ?_
        refine AQ.weaken (E' := [(0, _), (1, _), (2, _), (19, _), (5, _), (6, _)]) ⟨rfl, rfl, rfl, rfl, rfl, rfl, trivial⟩ ?_
        refine AQ.draw (F0 := _) [.fix none none _] mixed rfl (
          .cons (.fix 36 [] [] [] _) (fun xs E' F Q' k => AQ.move (.plain rfl) rfl rfl (AQ.nil (k (0, undef)))) <|
          .cons (.fix 37 [] [] [] _) (fun xs E' F Q' k => AQ.move (.plain rfl) rfl rfl (AQ.nil (k (0, undef)))) <|
          .cons (.fix 38 [0, 1] [0, 1] [] _) (fun xs E' F Q' k => AQ.quo (.plain rfl) rfl rfl rfl (by omega) (tdiv_pos (by omega) (by omega) (by omega)) (AQ.nil (k (0, undef)))) <|
          .cons (.fix 39 [] [] [] _) (fun xs E' F Q' k => AQ.fieldv (.plain rfl) rfl rfl fo37_1 rfl (AQ.nil (k (0, undef)))) <|
          .cons (.fix 40 [3] [3] [0] _) (fun xs E' F Q' k => AQ.loadv1 (.plain rfl) rfl 0 rfl rfl ag3 rfl (AQ.nil (k (0, undef)))) <|
          .cons (.fix 41 [0, 1, 2, 3, 4] [2, 4] [] _) (fun xs E' F Q' k => AQ.mul (.plain rfl) rfl rfl rfl (i64_id (by omega) (by omega)) (AQ.nil (k (0, undef)))) <|
          .cons (.fix 42 [] [] [] _) (fun xs E' F Q' k => AQ.move (.plain rfl) rfl rfl (AQ.nil (k (0, undef)))) <|
          .cons (.fix 43 [] [] [] _) (fun xs E' F Q' k => AQ.move (.plain rfl) rfl rfl (AQ.nil (k (0, undef)))) <|
          .cons (.fix 44 [6, 7] [6, 7] [] _) (fun xs E' F Q' k => AQ.rem (.plain rfl) rfl rfl rfl (by omega) (tmod_pos (by omega)) (AQ.nil (k (0, undef)))) <|
          .cons (.fix 45 [] [] [] _) (fun xs E' F Q' k => AQ.fieldv (.plain rfl) rfl rfl fo37_1 rfl (AQ.nil (k (0, undef)))) <|
          .cons (.fix 46 [9] [9] [0] _) (fun xs E' F Q' k => AQ.loadv1 (.plain rfl) rfl 0 rfl rfl ag3 rfl (AQ.nil (k (0, undef)))) <|
          .cons (.fix 47 [6, 7, 8, 9, 10] [8, 10] [] _) (fun xs E' F Q' k => AQ.min2 (.plain rfl) rfl rfl rfl (AQ.nil (k (0, undef)))) <|
          .cons (.fix 48 [0, 1, 2, 3, 4, 5, 6, 7, 8, 9, 10, 11] [5, 11] [] _) (fun xs E' F Q' k => AQ.add (.plain rfl) rfl rfl rfl (i64_id (by omega) (by omega)) (AQ.nil (k (0, undef)))) <|
          .cons (.fix 4 [0, 1, 2, 3, 4, 5, 6, 7, 8, 9, 10, 11, 12] [12] [] _) (fun xs E' F Q' k => AQ.assign (.plain rfl) rfl rfl (AQ.nil (k (0, undef)))) <|
          .nil) (by kernel_rfl) (by kernel_rfl) (fun x8 => ?_)
        refine AQ.then_n ?_
        refine AQ.ret ?_
        refine AQ.dropN 1 ?_
        refine AQ.eqH (H' := H) rfl ?_
        exact AQ.done1 hJ3 Tryz.results196 rfl ⟨(I_c (by unfold objN; first | exact if_t ⟨hs, hm.2, by omega, by omega⟩ | exact if_f (fun hh => by first | omega | exact absurd (show (∀ n ∈ [size], inFar n) ∧ l.May from ⟨by simpa using hh.1, hh.2.1⟩) (by assumption)))), rfl⟩
theorem headSized (l : Layout) (size : Int) (m : List Int) (H : List HA)  : AC Tryz.prog 123 [.agg l.cells, I size, ints m] (H) (fun r' H' => r' = (B (sizedMay l size m)) ∧ H' = H) := by
  refine AC.enter Tryz.func123 rfl Tryz.ntmps123 rfl (fun I0 => ?_)
  refine AQ.seq ?_
  refine AQ.region ?_
  refine AQ.boxA (.plain rfl) rfl rfl (fun b1 => ?_)
  refine AQ.assign (.plain rfl) rfl rfl ?_
  refine AQ.nil ?_
  refine AQ.then_n ?_
  refine AQ.seq ?_
  refine AQ.region ?_
  refine AQ.move (.plain rfl) rfl rfl ?_
  refine AQ.geq (.plain rfl) rfl rfl rfl ?_
  refine AQ.move (.plain rfl) rfl rfl ?_
  refine AQ.split (t := 9) rfl (fun h2 => ?_) (fun h2 => ?_)
  · refine AQ.move (.on rfl rfl rfl) rfl rfl ?_
    refine AQ.leq (.on rfl rfl rfl) rfl rfl rfl ?_
    refine AQ.pick_t (.plain rfl) rfl rfl rfl ?_
    refine AQ.move (.plain rfl) rfl rfl ?_
    refine AQ.split (t := 13) rfl (fun h3 => ?_) (fun h3 => ?_)
    · refine AQ.move (.on rfl rfl rfl) rfl rfl ?_
      refine AQ.callf (.on rfl rfl rfl) rfl rfl en195 (objmapCheck _ _) ?_
      refine AQ.pick_t (.plain rfl) rfl rfl rfl ?_
      refine AQ.move (.plain rfl) rfl rfl ?_
      refine AQ.split (t := 17) rfl (fun h4 => ?_) (fun h4 => ?_)
      · refine AQ.move (.on rfl rfl rfl) rfl rfl ?_
        refine AQ.lenz (.on rfl rfl rfl) (.sl rfl) rfl Tryz.underlying38 (by first | (simp only [List.length_map]; rfl) | rfl) ?_
        refine AQ.loadvA (.on rfl rfl rfl) rfl 0 rfl rfl ag37 rfl rfl ?_
        refine AQ.move (.on rfl rfl rfl) rfl rfl ?_
        refine AQ.callf (.on rfl rfl rfl) rfl rfl en196 (stripeObjects _ _ _) ?_
        refine AQ.leq (.on rfl rfl rfl) rfl rfl rfl ?_
        refine AQ.pick_t (.plain rfl) rfl rfl rfl ?_
        refine AQ.assign (.plain rfl) rfl rfl ?_
        refine AQ.nil ?_
        refine AQ.then_n ?_
        refine AQ.ret ?_
        refine AQ.dropN 1 ?_
        refine AQ.eqH (H' := H) rfl ?_
        exact AQ.done1 (Imm.le_refl _) Tryz.results123 rfl ⟨(by unfold sizedMay; first | exact B_f (by omega) | exact B_f (fun hh => absurd hh.2.2.1 (by assumption)) | exact B_c ⟨fun h => ⟨by omega, by omega, by assumption, h⟩, fun h => h.2.2.2⟩), rfl⟩
      · refine AQ.off rfl rfl rfl rfl ?_
        refine AQ.off rfl rfl rfl rfl ?_
        refine AQ.off rfl rfl rfl rfl ?_
        refine AQ.off rfl rfl rfl rfl ?_
        refine AQ.off rfl rfl rfl rfl ?_
        refine AQ.off rfl rfl rfl rfl ?_
        refine AQ.pick_f (.plain rfl) rfl rfl rfl ?_
        refine AQ.assign (.plain rfl) rfl rfl ?_
        refine AQ.nil ?_
        refine AQ.then_n ?_
        refine AQ.ret ?_
        refine AQ.dropN 1 ?_
        refine AQ.eqH (H' := H) rfl ?_
        exact AQ.done1 (Imm.le_refl _) Tryz.results123 rfl ⟨(by unfold sizedMay; first | exact B_f (by omega) | exact B_f (fun hh => absurd hh.2.2.1 (by assumption)) | exact B_c ⟨fun h => ⟨by omega, by omega, by assumption, h⟩, fun h => h.2.2.2⟩), rfl⟩
    · refine AQ.off rfl rfl rfl rfl ?_
      refine AQ.off rfl rfl rfl rfl ?_
      refine AQ.pick_f (.plain rfl) rfl rfl rfl ?_
      refine AQ.move (.plain rfl) rfl rfl ?_
      refine AQ.off rfl rfl rfl rfl ?_
      refine AQ.off rfl rfl rfl rfl ?_
      refine AQ.off rfl rfl rfl rfl ?_
      refine AQ.off rfl rfl rfl rfl ?_
      refine AQ.off rfl rfl rfl rfl ?_
      refine AQ.off rfl rfl rfl rfl ?_
      refine AQ.pick_f (.plain rfl) rfl rfl rfl ?_
      refine AQ.assign (.plain rfl) rfl rfl ?_
      refine AQ.nil ?_
      refine AQ.then_n ?_
      refine AQ.ret ?_
      refine AQ.dropN 1 ?_
      refine AQ.eqH (H' := H) rfl ?_
      exact AQ.done1 (Imm.le_refl _) Tryz.results123 rfl ⟨(by unfold sizedMay; first | exact B_f (by omega) | exact B_f (fun hh => absurd hh.2.2.1 (by assumption)) | exact B_c ⟨fun h => ⟨by omega, by omega, by assumption, h⟩, fun h => h.2.2.2⟩), rfl⟩
  · refine AQ.off rfl rfl rfl rfl ?_
    refine AQ.off rfl rfl rfl rfl ?_
    refine AQ.pick_f (.plain rfl) rfl rfl rfl ?_
    refine AQ.move (.plain rfl) rfl rfl ?_
    refine AQ.off rfl rfl rfl rfl ?_
    refine AQ.off rfl rfl rfl rfl ?_
    refine AQ.pick_f (.plain rfl) rfl rfl rfl ?_
    refine AQ.move (.plain rfl) rfl rfl ?_
    refine AQ.off rfl rfl rfl rfl ?_
    refine AQ.off rfl rfl rfl rfl ?_
    refine AQ.off rfl rfl rfl rfl ?_
    refine AQ.off rfl rfl rfl rfl ?_
    refine AQ.off rfl rfl rfl rfl ?_
    refine AQ.off rfl rfl rfl rfl ?_
    refine AQ.pick_f (.plain rfl) rfl rfl rfl ?_
    refine AQ.assign (.plain rfl) rfl rfl ?_
    refine AQ.nil ?_
    refine AQ.then_n ?_
    refine AQ.ret ?_
    refine AQ.dropN 1 ?_
    refine AQ.eqH (H' := H) rfl ?_
    exact AQ.done1 (Imm.le_refl _) Tryz.results123 rfl ⟨(by unfold sizedMay; first | exact B_f (by omega) | exact B_f (fun hh => absurd hh.2.2.1 (by assumption)) | exact B_c ⟨fun h => ⟨by omega, by omega, by assumption, h⟩, fun h => h.2.2.2⟩), rfl⟩
end Go.Fx
set_option linter.unusedVariables false
set_option linter.unusedSimpArgs false
set_option maxRecDepth 100000
namespace Go.Fx
open Go Go.Proofs

theorem headCheck (h : Head) (H : List HA)  : AC Tryz.prog 60 [.agg h.cells] (H) (fun r' H' => r' = (I (headErr h)) ∧ H' = H) := by
  refine AC.enter Tryz.func60 rfl Tryz.ntmps60 rfl (fun I0 => ?_)
  refine AQ.seq ?_
  refine AQ.region ?_
  refine AQ.boxA (.plain rfl) rfl rfl (fun b1 => ?_)
  refine AQ.assign (.plain rfl) rfl rfl ?_
  refine AQ.nil ?_
  refine AQ.then_n ?_
  refine AQ.scope 0 [] (H) (¬ h.May) rfl ?_ (fun hF => ?_)
  · refine AQ.seq ?_
    refine AQ.region ?_
    refine AQ.assign (.plain rfl) rfl rfl ?_
    refine AQ.nil ?_
    refine AQ.then_n ?_
    refine AQ.seq ?_
    refine AQ.seq ?_
    refine AQ.region ?_
    refine AQ.fieldv (.plain rfl) rfl rfl fo41_0 rfl ?_
    refine AQ.loadvA (.plain rfl) rfl 0 rfl rfl ag37 rfl rfl ?_
    refine AQ.callf (.plain rfl) rfl rfl en122 (stripeCheck h.layout _) ?_
    refine AQ.neq (.plain rfl) rfl rfl rfl ?_
    refine AQ.move (.plain rfl) rfl rfl ?_
    refine AQ.split (t := 10) rfl (fun h2 => ?_) (fun h2 => ?_)
    · refine AQ.off rfl rfl rfl rfl ?_
      refine AQ.off rfl rfl rfl rfl ?_
      refine AQ.off rfl rfl rfl rfl ?_
      refine AQ.off rfl rfl rfl rfl ?_
      refine AQ.off rfl rfl rfl rfl ?_
      refine AQ.off rfl rfl rfl rfl ?_
      refine AQ.off rfl rfl rfl rfl ?_
      refine AQ.off rfl rfl rfl rfl ?_
      refine AQ.pick_t (.plain rfl) rfl rfl rfl ?_
      refine AQ.move (.plain rfl) rfl rfl ?_
      refine AQ.off rfl rfl rfl rfl ?_
      refine AQ.off rfl rfl rfl rfl ?_
      refine AQ.off rfl rfl rfl rfl ?_
      refine AQ.off rfl rfl rfl rfl ?_
      refine AQ.pick_t (.plain rfl) rfl rfl rfl ?_
      refine AQ.nil ?_
      refine AQ.then_n ?_
      refine AQ.cond_t rfl ?_
      refine AQ.goto ?_
      refine AQ.then_g ?_
      refine AQ.dropN 1 ?_
      refine AQ.eqH (H' := H) rfl ?_
      exact AQ.jump_hit (Imm.le_refl _) trivial rfl (fun hh => by obtain ⟨g1, g2, g3, g4, g5, g6, g7, g8⟩ := hh; first | omega | exact absurd g2 (by assumption) | exact absurd (layoutErr_ok g1) (by assumption) | (rw [hs.2, drop_cons hx] at g8; obtain ⟨r1, r2, r3, r4⟩ := g8; first | omega | exact absurd r3 (by assumption)))
    · refine AQ.fieldv (.on rfl rfl rfl) rfl rfl fo41_0 rfl ?_
      refine AQ.loadvA (.on rfl rfl rfl) rfl 0 rfl rfl ag37 rfl rfl ?_
      refine AQ.fieldv (.on rfl rfl rfl) rfl rfl fo41_1 rfl ?_
      refine AQ.loadv1 (.on rfl rfl rfl) rfl 0 rfl rfl ag3 rfl ?_
      refine AQ.fieldv (.on rfl rfl rfl) rfl rfl fo41_2 rfl ?_
      refine AQ.loadv1 (.on rfl rfl rfl) rfl 0 rfl rfl ag38 rfl ?_
      refine AQ.callf (.on rfl rfl rfl) rfl rfl en123 (headSized h.layout h.size h.map _) ?_
      refine AQ.not_d (.on rfl rfl rfl) rfl rfl ?_
      refine AQ.pick_f (.plain rfl) rfl rfl rfl ?_
      refine AQ.move (.plain rfl) rfl rfl ?_
      refine AQ.split (t := 20) rfl (fun h3 => ?_) (fun h3 => ?_)
      · refine AQ.off rfl rfl rfl rfl ?_
        refine AQ.off rfl rfl rfl rfl ?_
        refine AQ.off rfl rfl rfl rfl ?_
        refine AQ.off rfl rfl rfl rfl ?_
        refine AQ.pick_t (.plain rfl) rfl rfl rfl ?_
        refine AQ.nil ?_
        refine AQ.then_n ?_
        refine AQ.cond_t rfl ?_
        refine AQ.goto ?_
        refine AQ.then_g ?_
        refine AQ.dropN 1 ?_
        refine AQ.eqH (H' := H) rfl ?_
        exact AQ.jump_hit (Imm.le_refl _) trivial rfl (fun hh => by obtain ⟨g1, g2, g3, g4, g5, g6, g7, g8⟩ := hh; first | omega | exact absurd g2 (by assumption) | exact absurd (layoutErr_ok g1) (by assumption) | (rw [hs.2, drop_cons hx] at g8; obtain ⟨r1, r2, r3, r4⟩ := g8; first | omega | exact absurd r3 (by assumption)))
      · refine AQ.fieldv (.on rfl rfl rfl) rfl rfl fo41_3 rfl ?_
        refine AQ.loadv1 (.on rfl rfl rfl) rfl 0 rfl rfl ag39 rfl ?_
        refine AQ.lenz (.on rfl rfl rfl) (.sl rfl) rfl Tryz.underlying39 (by first | (simp only [List.length_map]; rfl) | rfl) ?_
        refine AQ.gtr (.on rfl rfl rfl) rfl rfl rfl ?_
        refine AQ.pick_f (.plain rfl) rfl rfl rfl ?_
        refine AQ.nil ?_
        refine AQ.then_n ?_
        refine AQ.cond_d rfl (fun h4 => ?_) (fun h4 => ?_)
        · refine AQ.goto ?_
          refine AQ.then_g ?_
          refine AQ.dropN 1 ?_
          refine AQ.eqH (H' := H) rfl ?_
          exact AQ.jump_hit (Imm.le_refl _) trivial rfl (fun hh => by obtain ⟨g1, g2, g3, g4, g5, g6, g7, g8⟩ := hh; first | omega | exact absurd g2 (by assumption) | exact absurd (layoutErr_ok g1) (by assumption) | (rw [hs.2, drop_cons hx] at g8; obtain ⟨r1, r2, r3, r4⟩ := g8; first | omega | exact absurd r3 (by assumption)))
        · refine AQ.skip ?_
          refine AQ.then_n ?_
          refine AQ.seq ?_
          refine AQ.seq ?_
          refine AQ.region ?_
          refine AQ.fieldv (.plain rfl) rfl rfl fo41_4 rfl ?_
          refine AQ.loadv1 (.plain rfl) rfl 0 rfl rfl ag3 rfl ?_
          refine AQ.lss (.plain rfl) rfl rfl rfl ?_
          refine AQ.move (.plain rfl) rfl rfl ?_
          refine AQ.split (t := 29) rfl (fun h5 => ?_) (fun h5 => ?_)
          · refine AQ.off rfl rfl rfl rfl ?_
            refine AQ.off rfl rfl rfl rfl ?_
            refine AQ.off rfl rfl rfl rfl ?_
            refine AQ.pick_t (.plain rfl) rfl rfl rfl ?_
            refine AQ.move (.plain rfl) rfl rfl ?_
            refine AQ.off rfl rfl rfl rfl ?_
            refine AQ.off rfl rfl rfl rfl ?_
            refine AQ.off rfl rfl rfl rfl ?_
            refine AQ.pick_t (.plain rfl) rfl rfl rfl ?_
            refine AQ.move (.plain rfl) rfl rfl ?_
            refine AQ.off rfl rfl rfl rfl ?_
            refine AQ.off rfl rfl rfl rfl ?_
            refine AQ.off rfl rfl rfl rfl ?_
            refine AQ.pick_t (.plain rfl) rfl rfl rfl ?_
            refine AQ.nil ?_
            refine AQ.then_n ?_
            refine AQ.cond_t rfl ?_
            refine AQ.goto ?_
            refine AQ.then_g ?_
            refine AQ.dropN 1 ?_
            refine AQ.eqH (H' := H) rfl ?_
            exact AQ.jump_hit (Imm.le_refl _) trivial rfl (fun hh => by obtain ⟨g1, g2, g3, g4, g5, g6, g7, g8⟩ := hh; first | omega | exact absurd g2 (by assumption) | exact absurd (layoutErr_ok g1) (by assumption) | (rw [hs.2, drop_cons hx] at g8; obtain ⟨r1, r2, r3, r4⟩ := g8; first | omega | exact absurd r3 (by assumption)))
          · refine AQ.fieldv (.on rfl rfl rfl) rfl rfl fo41_4 rfl ?_
            refine AQ.loadv1 (.on rfl rfl rfl) rfl 0 rfl rfl ag3 rfl ?_
            refine AQ.gtr (.on rfl rfl rfl) rfl rfl rfl ?_
            refine AQ.pick_f (.plain rfl) rfl rfl rfl ?_
            refine AQ.move (.plain rfl) rfl rfl ?_
            refine AQ.split (t := 34) rfl (fun h6 => ?_) (fun h6 => ?_)
            · refine AQ.off rfl rfl rfl rfl ?_
              refine AQ.off rfl rfl rfl rfl ?_
              refine AQ.off rfl rfl rfl rfl ?_
              refine AQ.pick_t (.plain rfl) rfl rfl rfl ?_
              refine AQ.move (.plain rfl) rfl rfl ?_
              refine AQ.off rfl rfl rfl rfl ?_
              refine AQ.off rfl rfl rfl rfl ?_
              refine AQ.off rfl rfl rfl rfl ?_
              refine AQ.pick_t (.plain rfl) rfl rfl rfl ?_
              refine AQ.nil ?_
              refine AQ.then_n ?_
              refine AQ.cond_t rfl ?_
              refine AQ.goto ?_
              refine AQ.then_g ?_
              refine AQ.dropN 1 ?_
              refine AQ.eqH (H' := H) rfl ?_
              exact AQ.jump_hit (Imm.le_refl _) trivial rfl (fun hh => by obtain ⟨g1, g2, g3, g4, g5, g6, g7, g8⟩ := hh; first | omega | exact absurd g2 (by assumption) | exact absurd (layoutErr_ok g1) (by assumption) | (rw [hs.2, drop_cons hx] at g8; obtain ⟨r1, r2, r3, r4⟩ := g8; first | omega | exact absurd r3 (by assumption)))
            · refine AQ.fieldv (.on rfl rfl rfl) rfl rfl fo41_5 rfl ?_
              refine AQ.loadv1 (.on rfl rfl rfl) rfl 0 rfl rfl ag3 rfl ?_
              refine AQ.lss (.on rfl rfl rfl) rfl rfl rfl ?_
              refine AQ.pick_f (.plain rfl) rfl rfl rfl ?_
              refine AQ.move (.plain rfl) rfl rfl ?_
              refine AQ.split (t := 39) rfl (fun h7 => ?_) (fun h7 => ?_)
              · refine AQ.off rfl rfl rfl rfl ?_
                refine AQ.off rfl rfl rfl rfl ?_
                refine AQ.off rfl rfl rfl rfl ?_
                refine AQ.pick_t (.plain rfl) rfl rfl rfl ?_
                refine AQ.nil ?_
                refine AQ.then_n ?_
                refine AQ.cond_t rfl ?_
                refine AQ.goto ?_
                refine AQ.then_g ?_
                refine AQ.dropN 1 ?_
                refine AQ.eqH (H' := H) rfl ?_
                exact AQ.jump_hit (Imm.le_refl _) trivial rfl (fun hh => by obtain ⟨g1, g2, g3, g4, g5, g6, g7, g8⟩ := hh; first | omega | exact absurd g2 (by assumption) | exact absurd (layoutErr_ok g1) (by assumption) | (rw [hs.2, drop_cons hx] at g8; obtain ⟨r1, r2, r3, r4⟩ := g8; first | omega | exact absurd r3 (by assumption)))
              · refine AQ.fieldv (.on rfl rfl rfl) rfl rfl fo41_5 rfl ?_
                refine AQ.loadv1 (.on rfl rfl rfl) rfl 0 rfl rfl ag3 rfl ?_
                refine AQ.gtr (.on rfl rfl rfl) rfl rfl rfl ?_
                refine AQ.pick_f (.plain rfl) rfl rfl rfl ?_
                refine AQ.nil ?_
                refine AQ.then_n ?_
                refine AQ.cond_d rfl (fun h8 => ?_) (fun h8 => ?_)
                · refine AQ.goto ?_
                  refine AQ.then_g ?_
                  refine AQ.dropN 1 ?_
                  refine AQ.eqH (H' := H) rfl ?_
                  exact AQ.jump_hit (Imm.le_refl _) trivial rfl (fun hh => by obtain ⟨g1, g2, g3, g4, g5, g6, g7, g8⟩ := hh; first | omega | exact absurd g2 (by assumption) | exact absurd (layoutErr_ok g1) (by assumption) | (rw [hs.2, drop_cons hx] at g8; obtain ⟨r1, r2, r3, r4⟩ := g8; first | omega | exact absurd r3 (by assumption)))
                · refine AQ.skip ?_
                  refine AQ.then_n ?_
                  refine AQ.seq ?_
                  refine AQ.seq ?_
                  refine AQ.region ?_
                  refine AQ.fieldv (.plain rfl) rfl rfl fo41_3 rfl ?_
                  refine AQ.loadv1 (.plain rfl) rfl 0 rfl rfl ag39 rfl ?_
                  refine AQ.slB (t := 45) rfl (fun z1 => ?_)
                  simp only [List.length_map] at z1
                  refine AQ.lenz (.plain rfl) (.sl rfl) rfl Tryz.underlying39 (by first | (simp only [List.length_map]; rfl) | rfl) ?_
                  refine AQ.move (.plain rfl) rfl rfl ?_
                  refine AQ.nil ?_
                  refine AQ.then_n ?_
                  refine AQ.block ?_
                  refine AQ.loop (σ := Nat × Int) (fun s => [(1, .val (.pointer (some ⟨b1, 0, none⟩))), (3, I s.2), (45, .sl 3 (snapRows h.snaps)), (46, I (h.snaps.length : Int)), (47, I (s.1 : Int))]) (fun s => .box b1 41 h.cells :: H) (fun s => s.1 ≤ h.snaps.length ∧ (snapsMay h.layout h.last 0 h.snaps ↔ snapsMay h.layout h.last s.2 (h.snaps.drop s.1))) (fun s => h.snaps.length - s.1) (0, 0) ⟨by simp, by simp⟩ ⟨rfl, rfl, rfl, rfl, rfl, trivial⟩ rfl (fun s hs => ?_)
                  refine AQ.seq ?_
                  refine AQ.region ?_
                  refine AQ.lss (.plain rfl) rfl rfl rfl ?_
                  refine AQ.nil ?_
                  refine AQ.then_n ?_
                  refine AQ.seq ?_
                  refine AQ.cond_d rfl (fun h9 => ?_) (fun h9 => ?_)
                  · refine AQ.skip ?_
                    refine AQ.then_n ?_
                    refine AQ.seq ?_
                    refine AQ.block ?_
                    refine AQ.seq ?_
                    refine AQ.region ?_
                    obtain ⟨x, hx⟩ := lgetz (l := h.snaps) (z := (s.1 : Int)) (by omega) (by omega)
                    refine AQ.indexAddr (.plain rfl) rfl rfl rfl Tryz.underlying39 ag124 (by omega) (map_getz hx) ?_
                    refine AQ.loadA (.plain rfl) rfl rfl ag124 rfl rfl ?_
                    refine AQ.alloc (.plain rfl) zo124 rfl rfl (fun b10 => ?_)
                    refine AQ.storevA (.plain rfl) rfl 0 rfl rfl ag124 rfl rfl ?_
                    try simp only [List.set_cons_zero, List.set_cons_succ]
                    refine AQ.nil ?_
                    rw [Int.toNat_natCast] at hx
                    refine AQ.then_n ?_
                    refine AQ.seq ?_
                    refine AQ.seq ?_
                    refine AQ.region ?_
                    refine AQ.fieldv (.plain rfl) rfl rfl fo124_0 rfl ?_
                    refine AQ.loadv1 (.plain rfl) rfl 0 rfl rfl ag3 rfl ?_
                    refine AQ.move (.plain rfl) rfl rfl ?_
                    refine AQ.leq (.plain rfl) rfl rfl rfl ?_
                    refine AQ.move (.plain rfl) rfl rfl ?_
                    refine AQ.split (t := 55) rfl (fun h11 => ?_) (fun h11 => ?_)
                    · refine AQ.off rfl rfl rfl rfl ?_
                      refine AQ.off rfl rfl rfl rfl ?_
                      refine AQ.off rfl rfl rfl rfl ?_
                      refine AQ.off rfl rfl rfl rfl ?_
                      refine AQ.off rfl rfl rfl rfl ?_
                      refine AQ.pick_t (.plain rfl) rfl rfl rfl ?_
                      refine AQ.move (.plain rfl) rfl rfl ?_
                      refine AQ.off rfl rfl rfl rfl ?_
                      refine AQ.off rfl rfl rfl rfl ?_
                      refine AQ.off rfl rfl rfl rfl ?_
                      refine AQ.off rfl rfl rfl rfl ?_
                      refine AQ.off rfl rfl rfl rfl ?_
                      refine AQ.off rfl rfl rfl rfl ?_
                      refine AQ.off rfl rfl rfl rfl ?_
                      refine AQ.off rfl rfl rfl rfl ?_
                      refine AQ.pick_t (.plain rfl) rfl rfl rfl ?_
                      refine AQ.nil ?_
                      refine AQ.then_n ?_
                      refine AQ.cond_t rfl ?_
                      refine AQ.goto ?_
                      refine AQ.then_g ?_
                      refine AQ.block_g ?_
                      refine AQ.then_g ?_
                      refine AQ.then_g ?_
                      refine AQ.block_g ?_
                      refine AQ.then_g ?_
                      refine AQ.dropN 1 ?_
                      refine AQ.dropN 1 ?_
                      refine AQ.eqH (H' := H) rfl ?_
                      exact AQ.jump_hit (Imm.le_refl _) trivial rfl (fun hh => by obtain ⟨g1, g2, g3, g4, g5, g6, g7, g8⟩ := hh; first | omega | exact absurd g2 (by assumption) | exact absurd (layoutErr_ok g1) (by assumption) | (rw [hs.2, drop_cons hx] at g8; obtain ⟨r1, r2, r3, r4⟩ := g8; first | omega | exact absurd r3 (by assumption)))
                    · refine AQ.fieldv (.on rfl rfl rfl) rfl rfl fo124_0 rfl ?_
                      refine AQ.loadv1 (.on rfl rfl rfl) rfl 0 rfl rfl ag3 rfl ?_
                      refine AQ.fieldv (.on rfl rfl rfl) rfl rfl fo41_4 rfl ?_
                      refine AQ.loadv1 (.on rfl rfl rfl) rfl 1 rfl rfl ag3 rfl ?_
                      refine AQ.gtr (.on rfl rfl rfl) rfl rfl rfl ?_
                      refine AQ.pick_f (.plain rfl) rfl rfl rfl ?_
                      refine AQ.move (.plain rfl) rfl rfl ?_
                      refine AQ.split (t := 62) rfl (fun h12 => ?_) (fun h12 => ?_)
                      · refine AQ.off rfl rfl rfl rfl ?_
                        refine AQ.off rfl rfl rfl rfl ?_
                        refine AQ.off rfl rfl rfl rfl ?_
                        refine AQ.off rfl rfl rfl rfl ?_
                        refine AQ.off rfl rfl rfl rfl ?_
                        refine AQ.off rfl rfl rfl rfl ?_
                        refine AQ.off rfl rfl rfl rfl ?_
                        refine AQ.off rfl rfl rfl rfl ?_
                        refine AQ.pick_t (.plain rfl) rfl rfl rfl ?_
                        refine AQ.nil ?_
                        refine AQ.then_n ?_
                        refine AQ.cond_t rfl ?_
                        refine AQ.goto ?_
                        refine AQ.then_g ?_
                        refine AQ.block_g ?_
                        refine AQ.then_g ?_
                        refine AQ.then_g ?_
                        refine AQ.block_g ?_
                        refine AQ.then_g ?_
                        refine AQ.dropN 1 ?_
                        refine AQ.dropN 1 ?_
                        refine AQ.eqH (H' := H) rfl ?_
                        exact AQ.jump_hit (Imm.le_refl _) trivial rfl (fun hh => by obtain ⟨g1, g2, g3, g4, g5, g6, g7, g8⟩ := hh; first | omega | exact absurd g2 (by assumption) | exact absurd (layoutErr_ok g1) (by assumption) | (rw [hs.2, drop_cons hx] at g8; obtain ⟨r1, r2, r3, r4⟩ := g8; first | omega | exact absurd r3 (by assumption)))
                      · refine AQ.fieldv (.on rfl rfl rfl) rfl rfl fo41_0 rfl ?_
                        refine AQ.loadvA (.on rfl rfl rfl) rfl 1 rfl rfl ag37 rfl rfl ?_
                        refine AQ.fieldv (.on rfl rfl rfl) rfl rfl fo124_1 rfl ?_
                        refine AQ.loadv1 (.on rfl rfl rfl) rfl 0 rfl rfl ag3 rfl ?_
                        refine AQ.fieldv (.on rfl rfl rfl) rfl rfl fo124_2 rfl ?_
                        refine AQ.loadv1 (.on rfl rfl rfl) rfl 0 rfl rfl ag38 rfl ?_
                        refine AQ.callf (.on rfl rfl rfl) rfl rfl en123 (headSized h.layout x.size x.map _) ?_
                        refine AQ.not_d (.on rfl rfl rfl) rfl rfl ?_
                        refine AQ.pick_f (.plain rfl) rfl rfl rfl ?_
                        refine AQ.nil ?_
                        refine AQ.then_n ?_
                        refine AQ.cond_d rfl (fun h13 => ?_) (fun h13 => ?_)
                        · refine AQ.goto ?_
                          refine AQ.then_g ?_
                          refine AQ.block_g ?_
                          refine AQ.then_g ?_
                          refine AQ.then_g ?_
                          refine AQ.block_g ?_
                          refine AQ.then_g ?_
                          refine AQ.dropN 1 ?_
                          refine AQ.dropN 1 ?_
                          refine AQ.eqH (H' := H) rfl ?_
                          exact AQ.jump_hit (Imm.le_refl _) trivial rfl (fun hh => by obtain ⟨g1, g2, g3, g4, g5, g6, g7, g8⟩ := hh; first | omega | exact absurd g2 (by assumption) | exact absurd (layoutErr_ok g1) (by assumption) | (rw [hs.2, drop_cons hx] at g8; obtain ⟨r1, r2, r3, r4⟩ := g8; first | omega | exact absurd r3 (by assumption)))
                        · refine AQ.skip ?_
                          refine AQ.then_n ?_
                          refine AQ.region ?_
                          refine AQ.fieldv (.plain rfl) rfl rfl fo124_0 rfl ?_
                          refine AQ.loadv1 (.plain rfl) rfl 0 rfl rfl ag3 rfl ?_
                          refine AQ.assign (.plain rfl) rfl rfl ?_
                          refine AQ.nil ?_
                          refine AQ.block_n ?_
                          refine AQ.then_n ?_
                          refine AQ.region ?_
                          refine AQ.add (.plain rfl) rfl rfl rfl (i64_id (by omega) (by omega)) ?_
                          refine AQ.move (.plain rfl) rfl rfl ?_
                          refine AQ.nil ?_
                          refine AQ.dropN 1 ?_
                          refine AQ.eqH (H' := _ :: H) rfl ?_
                          exact AQ.again (Imm.le_refl _) (s.1 + 1, x.id) ⟨by simp only; omega, by rw [hs.2, drop_cons hx]; exact ⟨fun q => q.2.2.2, fun q => ⟨by omega, by omega, Decidable.not_not.1 (by assumption), q⟩⟩⟩ (by simp only; omega) ⟨rfl, rfl, rfl, rfl, rfl, trivial⟩ rfl
                  · refine AQ.exit ?_
                    refine AQ.then_e ?_
                    refine AQ.then_e ?_
                    refine AQ.block_hit ?_
                    refine AQ.then_n ?_
                    refine AQ.seq ?_
                    refine AQ.seq ?_
                    refine AQ.region ?_
                    refine AQ.assign (.plain rfl) rfl rfl ?_
                    refine AQ.nil ?_
                    refine AQ.then_n ?_
                    refine AQ.ret ?_
                    refine AQ.then_r ?_
                    refine AQ.jump_r ?_
                    refine AQ.dropN 1 ?_
                    refine AQ.eqH (H' := H) rfl ?_
                    exact AQ.done1 (Imm.le_refl _) Tryz.results60 rfl ⟨(I_c (by unfold headErr; exact if_t ⟨layoutErr_may (by omega), Decidable.not_not.1 (by assumption), by omega, by omega, by omega, by omega, by omega, hs.2.2 (by rw [List.drop_of_length_le (by omega)]; trivial)⟩)), rfl⟩
  · refine AQ.seq ?_
    refine AQ.skip ?_
    refine AQ.then_n ?_
    refine AQ.seq ?_
    refine AQ.region ?_
    refine AQ.assign (.plain rfl) rfl rfl ?_
    refine AQ.nil ?_
    refine AQ.then_n ?_
    refine AQ.ret ?_
    refine AQ.nogoto_r ?_
    exact AQ.done1 (Imm.le_refl _) Tryz.results60 rfl ⟨(I_c (by unfold headErr; exact if_f hF)), rfl⟩
theorem headNewest (h : Head) (H : List HA)  : AC Tryz.prog 125 [.agg h.cells] (H) (fun r' H' => r' = (I h.newest) ∧ H' = H) := by
  refine AC.enter Tryz.func125 rfl Tryz.ntmps125 rfl (fun I0 => ?_)
  refine AQ.seq ?_
  refine AQ.region ?_
  refine AQ.boxA (.plain rfl) rfl rfl (fun b1 => ?_)
  refine AQ.assign (.plain rfl) rfl rfl ?_
  refine AQ.nil ?_
  refine AQ.then_n ?_
  refine AQ.seq ?_
  refine AQ.seq ?_
  refine AQ.region ?_
  refine AQ.fieldv (.plain rfl) rfl rfl fo41_3 rfl ?_
  refine AQ.loadv1 (.plain rfl) rfl 0 rfl rfl ag39 rfl ?_
  refine AQ.slB (t := 4) rfl (fun z1 => ?_)
  simp only [List.length_map] at z1
  refine AQ.lenz (.plain rfl) (.sl rfl) rfl Tryz.underlying39 (by first | (simp only [List.length_map]; rfl) | rfl) ?_
  refine AQ.eql (.plain rfl) rfl rfl rfl ?_
  refine AQ.nil ?_
  refine AQ.then_n ?_
  refine AQ.cond_d rfl (fun h2 => ?_) (fun h2 => ?_)
  · refine AQ.seq ?_
    refine AQ.region ?_
    refine AQ.assign (.plain rfl) rfl rfl ?_
    refine AQ.nil ?_
    refine AQ.then_n ?_
    refine AQ.ret ?_
    refine AQ.then_r ?_
    refine AQ.dropN 1 ?_
    refine AQ.eqH (H' := H) rfl ?_
    exact AQ.done1 (Imm.le_refl _) Tryz.results125 rfl ⟨(I_c (by unfold Head.newest; first | (rw [show ((h.snaps.length : Int) - 1).toNat = h.snaps.length - 1 by omega] at hx; rw [hx]) | (rw [List.getElem?_eq_none (by omega)]))), rfl⟩
  · refine AQ.skip ?_
    refine AQ.then_n ?_
    refine AQ.seq ?_
    refine AQ.region ?_
    refine AQ.fieldv (.plain rfl) rfl rfl fo41_3 rfl ?_
    refine AQ.loadv1 (.plain rfl) rfl 0 rfl rfl ag39 rfl ?_
    refine AQ.fieldv (.plain rfl) rfl rfl fo41_3 rfl ?_
    refine AQ.loadv1 (.plain rfl) rfl 0 rfl rfl ag39 rfl ?_
    refine AQ.lenz (.plain rfl) (.sl rfl) rfl Tryz.underlying39 (by first | (simp only [List.length_map]; rfl) | rfl) ?_
    refine AQ.sub (.plain rfl) rfl rfl rfl (i64_id (by omega) (by omega)) ?_
    obtain ⟨x, hx⟩ := lgetz (l := h.snaps) (z := ((h.snaps.length : Int) - 1)) (by omega) (by omega)
    refine AQ.indexAddr (.plain rfl) rfl rfl rfl Tryz.underlying39 ag124 (by omega) (map_getz hx) ?_
    refine AQ.fieldAddr (.plain rfl) rfl rfl fo124_0 rfl ?_
    refine AQ.load1 (.plain rfl) rfl rfl ag3 rfl ?_
    refine AQ.assign (.plain rfl) rfl rfl ?_
    refine AQ.nil ?_
    refine AQ.then_n ?_
    refine AQ.ret ?_
    refine AQ.dropN 1 ?_
    refine AQ.eqH (H' := H) rfl ?_
    exact AQ.done1 (Imm.le_refl _) Tryz.results125 rfl ⟨(I_c (by unfold Head.newest; first | (rw [show ((h.snaps.length : Int) - 1).toNat = h.snaps.length - 1 by omega] at hx; rw [hx]) | (rw [List.getElem?_eq_none (by omega)]))), rfl⟩
theorem headFind1 (b : Nat) (x : Snap) (id : Int) (H : List HA)  : AC Tryz.prog 206 [.agg x.cells, .val (.pointer (some ⟨b, 0, none⟩))] ((.box b 3 [I id] :: H)) (fun r' H' => r' = (B (x.id = id)) ∧ H' = .box b 3 [I id] :: H) := by
  refine AC.enter Tryz.func206 rfl Tryz.ntmps206 rfl (fun I0 => ?_)
  refine AQ.seq ?_
  refine AQ.region ?_
  refine AQ.boxA (.plain rfl) rfl rfl (fun b1 => ?_)
  refine AQ.assign (.plain rfl) rfl rfl ?_
  refine AQ.nil ?_
  refine AQ.then_n ?_
  refine AQ.seq ?_
  refine AQ.region ?_
  refine AQ.fieldv (.plain rfl) rfl rfl fo124_0 rfl ?_
  refine AQ.loadv1 (.plain rfl) rfl 0 rfl rfl ag3 rfl ?_
  refine AQ.loadv1 (.plain rfl) rfl 1 rfl rfl ag3 rfl ?_
  refine AQ.eql (.plain rfl) rfl rfl rfl ?_
  refine AQ.assign (.plain rfl) rfl rfl ?_
  refine AQ.nil ?_
  refine AQ.then_n ?_
  refine AQ.ret ?_
  refine AQ.dropN 1 ?_
  refine AQ.eqH (H' := _ :: H) rfl ?_
  exact AQ.done1 (Imm.le_refl _) Tryz.results206 rfl ⟨rfl, rfl⟩
theorem indexSnaps (l : List Snap) (g : Nat) (first cap : List Value) (p : Snap → Bool) (K : List HA) (H : List HA) (y0 : Enters Tryz.prog g) (y1 : ∀ (x : Snap) (H : List HA), x ∈ l → AC Tryz.prog g (first.map .val ++ [.agg x.cells] ++ cap.map .val) (K ++ H) (fun r H' => r = .val (.bool (p x)) ∧ H' = K ++ H)) : AC Tryz.prog 205 [.sl 3 (l.map fun x => x.cells), .val (.func (.func g) first.toArray cap.toArray)] ((K ++ H)) (fun r' H' => r' = (I (idx p l)) ∧ H' = K ++ H) := by
  refine AC.enter Tryz.func205 rfl Tryz.ntmps205 rfl (fun I0 => ?_)
  refine AQ.slB (t := 0) rfl (fun z1 => ?_)
  simp only [List.length_map] at z1
  refine AQ.seq ?_
  refine AQ.region ?_
  refine AQ.assign (.plain rfl) rfl rfl ?_
  refine AQ.nil ?_
  refine AQ.then_n ?_
  refine AQ.seq ?_
  refine AQ.seq ?_
  refine AQ.region ?_
  refine AQ.move (.plain rfl) rfl rfl ?_
  refine AQ.lenz (.plain rfl) (.sl rfl) rfl Tryz.underlying39 (by first | (simp only [List.length_map]; rfl) | rfl) ?_
  refine AQ.move (.plain rfl) rfl rfl ?_
  refine AQ.nil ?_
  refine AQ.then_n ?_
  refine AQ.block ?_
  refine AQ.loop (σ := Nat) (fun s => [(0, .sl 3 (l.map fun x => x.cells)), (1, .val (.func (.func g) first.toArray cap.toArray)), (7, I (l.length : Int)), (8, I (s : Int))]) (fun s => K ++ H) (fun s => s ≤ l.length ∧ ∀ y ∈ l.take s, p y = false) (fun s => l.length - s) 0 (by simp) ⟨rfl, rfl, rfl, rfl, trivial⟩ rfl (fun s hs => ?_)
  refine AQ.seq ?_
  refine AQ.region ?_
  refine AQ.lss (.plain rfl) rfl rfl rfl ?_
  refine AQ.nil ?_
  refine AQ.then_n ?_
  refine AQ.seq ?_
  refine AQ.cond_d rfl (fun h1 => ?_) (fun h1 => ?_)
  · refine AQ.skip ?_
    refine AQ.then_n ?_
    refine AQ.seq ?_
    refine AQ.block ?_
    refine AQ.seq ?_
    refine AQ.region ?_
    refine AQ.move (.plain rfl) rfl rfl ?_
    refine AQ.assign (.plain rfl) rfl rfl ?_
    refine AQ.nil ?_
    refine AQ.then_n ?_
    refine AQ.seq ?_
    refine AQ.region ?_
    refine AQ.move (.plain rfl) rfl rfl ?_
    refine AQ.move (.plain rfl) rfl rfl ?_
    refine AQ.move (.plain rfl) rfl rfl ?_
    obtain ⟨x, hx⟩ := lgetz (l := l) (z := (s : Int)) (by omega) (by omega)
    refine AQ.indexAddr (.plain rfl) rfl rfl rfl Tryz.underlying39 ag124 (by omega) (by rw [List.getElem?_map, hx]; rfl) ?_
    rw [Int.toNat_natCast] at hx
    refine AQ.loadA (.plain rfl) rfl rfl ag124 rfl rfl ?_
    refine AQ.callvf (first := first) (cap := cap) (.plain rfl) rfl rfl rfl y0 (y1 x H (List.mem_of_getElem? hx)) ?_
    refine AQ.nil ?_
    refine AQ.then_n ?_
    refine AQ.cond rfl (fun h2 => ?_) (fun h2 => ?_)
    · refine AQ.seq ?_
      refine AQ.region ?_
      refine AQ.move (.plain rfl) rfl rfl ?_
      refine AQ.assign (.plain rfl) rfl rfl ?_
      refine AQ.nil ?_
      refine AQ.then_n ?_
      refine AQ.ret ?_
      refine AQ.block_r ?_
      refine AQ.then_r ?_
      refine AQ.then_r ?_
      refine AQ.block_r ?_
      refine AQ.then_r ?_
      exact AQ.done1 (Imm.le_refl _) Tryz.results205 rfl ⟨(I_c (idx_hit hx (by assumption) hs.2).symm), rfl⟩
    · refine AQ.skip ?_
      refine AQ.block_n ?_
      refine AQ.then_n ?_
      refine AQ.region ?_
      refine AQ.add (.plain rfl) rfl rfl rfl (i64_id (by omega) (by omega)) ?_
      refine AQ.move (.plain rfl) rfl rfl ?_
      refine AQ.nil ?_
      exact AQ.again (Imm.le_refl _) (s + 1) ⟨by omega, take_more hx (by assumption) hs.2⟩ (by omega) ⟨rfl, rfl, rfl, rfl, trivial⟩ rfl
  · refine AQ.exit ?_
    refine AQ.then_e ?_
    refine AQ.then_e ?_
    refine AQ.block_hit ?_
    refine AQ.then_n ?_
    refine AQ.seq ?_
    refine AQ.region ?_
    refine AQ.assign (.plain rfl) rfl rfl ?_
    refine AQ.nil ?_
    refine AQ.then_n ?_
    refine AQ.ret ?_
    exact AQ.done1 (Imm.le_refl _) Tryz.results205 rfl ⟨(I_c (idx_miss (by have h := hs.2; rwa [List.take_of_length_le (by omega)] at h)).symm), rfl⟩
theorem headFind (h : Head) (id : Int) (H : List HA)  : AC Tryz.prog 135 [.agg h.cells, I id] (H) (fun r' H' => r' = (I (h.find id)) ∧ H' = H) := by
  refine AC.enter Tryz.func135 rfl Tryz.ntmps135 rfl (fun I0 => ?_)
  refine AQ.seq ?_
  refine AQ.region ?_
  refine AQ.boxA (.plain rfl) rfl rfl (fun b1 => ?_)
  refine AQ.box1 (.plain rfl) rfl (.val rfl) rfl (fun b2 => ?_)
  refine AQ.assign (.plain rfl) rfl rfl ?_
  refine AQ.nil ?_
  refine AQ.then_n ?_
  refine AQ.seq ?_
  refine AQ.region ?_
  refine AQ.fieldv (.plain rfl) rfl rfl fo41_3 rfl ?_
  refine AQ.loadv1 (.plain rfl) rfl 1 rfl rfl ag39 rfl ?_
  refine AQ.makeFunc (fs := []) (cs := [_]) (.plain rfl) rfl rfl rfl ?_
  refine AQ.callf (.plain rfl) rfl rfl en205 (indexSnaps h.snaps 206 [] [_] (fun s => decide (s.id = id)) [.box b2 3 [I id]] _ en206 (fun x H _ => headFind1 _ _ _ H)) ?_
  refine AQ.assign (.plain rfl) rfl rfl ?_
  refine AQ.nil ?_
  refine AQ.then_n ?_
  refine AQ.ret ?_
  refine AQ.dropN 1 ?_
  refine AQ.dropN 1 ?_
  refine AQ.eqH (H' := H) rfl ?_
  exact AQ.done1 (Imm.le_refl _) Tryz.results135 rfl ⟨rfl, rfl⟩
end Go.Fx
set_option linter.unusedVariables false
set_option linter.unusedSimpArgs false
set_option maxRecDepth 100000
namespace Go.Fx
open Go Go.Proofs

theorem headPack (h : Head) (H : List HA)  : AC Tryz.prog 70 [.agg h.cells] (H) (fun r' H' => r' = (if h.May then AV.slS 1 (byteRows (headB h)) else .val (.slice none 0 0)) ∧ H' = H) := by
  refine AC.enter Tryz.func70 rfl Tryz.ntmps70 rfl (fun I0 => ?_)
  refine AQ.seq ?_
  refine AQ.region ?_
  refine AQ.boxA (.plain rfl) rfl rfl (fun b1 => ?_)
  refine AQ.assign (.plain rfl) rfl rfl ?_
  refine AQ.nil ?_
  refine AQ.then_n ?_
  refine AQ.seq ?_
  refine AQ.seq ?_
  refine AQ.region ?_
  refine AQ.loadvA (.plain rfl) rfl 0 rfl rfl ag41 rfl rfl ?_
  refine AQ.callf (.plain rfl) rfl rfl en60 (headCheck h _) ?_
  refine AQ.neq (.plain rfl) rfl rfl rfl ?_
  refine AQ.nil ?_
  refine AQ.then_n ?_
  refine AQ.cond_d rfl (fun h2 => ?_) (fun h2 => ?_)
  · refine AQ.seq ?_
    refine AQ.region ?_
    refine AQ.assign (.plain rfl) rfl rfl ?_
    refine AQ.nil ?_
    refine AQ.then_n ?_
    refine AQ.ret ?_
    refine AQ.then_r ?_
    refine AQ.dropN 1 ?_
    refine AQ.eqH (H' := H) rfl ?_
    exact AQ.done1 (Imm.le_refl _) Tryz.results70 rfl ⟨(if_f (fun hh => absurd (headErr_ok hh) (by assumption))), rfl⟩
  · refine AQ.skip ?_
    refine AQ.then_n ?_
    refine AQ.seq ?_
    refine AQ.region ?_
    refine AQ.fieldv (.plain rfl) rfl rfl fo41_0 rfl ?_
    refine AQ.fieldv (.plain rfl) rfl rfl fo37_0 rfl ?_
    refine AQ.loadv1 (.plain rfl) rfl 0 rfl rfl ag3 rfl ?_
    refine AQ.conv (.plain rfl) rfl rfl Tryz.underlying3 Tryz.underlying5 (b8_wrap _) ?_
    refine AQ.fieldv (.plain rfl) rfl rfl fo41_0 rfl ?_
    refine AQ.fieldv (.plain rfl) rfl rfl fo37_1 rfl ?_
    refine AQ.loadv1 (.plain rfl) rfl 0 rfl rfl ag3 rfl ?_
    refine AQ.conv (.plain rfl) rfl rfl Tryz.underlying3 Tryz.underlying5 (b8_wrap _) ?_
    refine AQ.fieldv (.plain rfl) rfl rfl fo41_0 rfl ?_
    refine AQ.fieldv (.plain rfl) rfl rfl fo37_2 rfl ?_
    refine AQ.loadv1 (.plain rfl) rfl 0 rfl rfl ag3 rfl ?_
    refine AQ.conv (.plain rfl) rfl rfl Tryz.underlying3 Tryz.underlying5 (b8_wrap _) ?_
    refine AQ.fieldv (.plain rfl) rfl rfl fo41_4 rfl ?_
    refine AQ.loadv1 (.plain rfl) rfl 0 rfl rfl ag3 rfl ?_
    refine AQ.conv (.plain rfl) rfl rfl Tryz.underlying3 Tryz.underlying5 (b8_wrap _) ?_
    refine AQ.buildSlice (rows := [[_], [_], [_], [_]]) (.plain rfl) rfl Tryz.underlying28 el5 zo5 rfl rfl rfl (.one rfl (.val rfl) rfl rfl (.one rfl (.val rfl) rfl rfl (.one rfl (.val rfl) rfl rfl (.one rfl (.val rfl) rfl rfl .nil)))) rfl rfl (by simp) (fun u3 => ?_)
    refine AQ.assign (.plain rfl) rfl rfl ?_
    refine AQ.nil ?_
    refine AQ.then_n ?_
    refine AQ.seq ?_
    refine AQ.region ?_
    refine AQ.move (.plain rfl) rfl rfl ?_
    refine AQ.fieldv (.plain rfl) rfl rfl fo41_1 rfl ?_
    refine AQ.loadv1 (.plain rfl) rfl 1 rfl rfl ag3 rfl ?_
    refine AQ.freeze 0 rfl (fun J4 hJ4 hp4 => ?_)
    refine AQ.as (t := 25) rfl hp4 ?_
    refine AQ.callo (.plain rfl) rfl rfl en138 (wireNum [b8 h.layout.u, b8 h.layout.c, b8 h.layout.o, b8 h.last] 2 h.size _ (by simp)) (fun v5 => ?_)
    refine AQ.assign (.plain rfl) rfl rfl ?_
    refine AQ.nil ?_
    refine AQ.then_n ?_
    refine AQ.seq ?_
    refine AQ.region ?_
    refine AQ.move (.plain rfl) rfl rfl ?_
    refine AQ.fieldv (.plain rfl) rfl rfl fo41_5 rfl ?_
    refine AQ.loadv1 (.plain rfl) rfl 1 rfl rfl ag3 rfl ?_
    refine AQ.freeze 0 rfl (fun J6 hJ6 hp6 => ?_)
    refine AQ.as (t := 29) rfl hp6 ?_
    refine AQ.callo (.plain rfl) rfl rfl en138 (wireNum _ 6 h.seq _ (by simp only [List.length_append, numB_len1, w1, w2, w6, List.length_cons, List.length_nil]; omega)) (fun v7 => ?_)
    refine AQ.assign (.plain rfl) rfl rfl ?_
    refine AQ.nil ?_
    refine AQ.then_n ?_
    refine AQ.seq ?_
    refine AQ.region ?_
    refine AQ.move (.plain rfl) rfl rfl ?_
    refine AQ.fieldv (.plain rfl) rfl rfl fo41_2 rfl ?_
    refine AQ.loadv1 (.plain rfl) rfl 1 rfl rfl ag38 rfl ?_
    refine AQ.callo (.plain rfl) rfl rfl en140 (objmapPack h.map _) (fun v8 => ?_)
    refine AQ.freeze 1 rfl (fun J9 hJ9 hp9 => ?_)
    refine AQ.freeze 0 rfl (fun J10 hJ10 hp10 => ?_)
    refine AQ.as (t := 33) rfl (AV.mono _ hJ10 hp9) ?_
    refine AQ.as (t := 36) rfl hp10 ?_
    refine AQ.callo (.plain rfl) rfl rfl en139 (wireBlob _ (mapB h.map) _ (by simp only [List.length_append, numB_len1, w1, w2, w6, List.length_cons, List.length_nil]; omega)) (fun v11 => ?_)
    refine AQ.assign (.plain rfl) rfl rfl ?_
    refine AQ.nil ?_
    refine AQ.then_n ?_
    refine AQ.seq ?_
    refine AQ.region ?_
    refine AQ.move (.plain rfl) rfl rfl ?_
    refine AQ.fieldv (.plain rfl) rfl rfl fo41_3 rfl ?_
    refine AQ.loadv1 (.plain rfl) rfl 1 rfl rfl ag39 rfl ?_
    refine AQ.lenz (.plain rfl) (.sl rfl) rfl Tryz.underlying39 (by first | (simp only [List.length_map]; rfl) | rfl) ?_
    refine AQ.freeze 0 rfl (fun J12 hJ12 hp12 => ?_)
    refine AQ.as (t := 38) rfl hp12 ?_
    refine AQ.callo (.plain rfl) rfl rfl en138 (wireNum _ 1 (h.snaps.length : Int) _ (by have := blobB_len (mapB h.map); simp only [List.length_append, numB_len1, w1, w2, w6, List.length_cons, List.length_nil]; omega)) (fun v13 => ?_)
    refine AQ.assign (.plain rfl) rfl rfl ?_
    refine AQ.nil ?_
    refine AQ.then_n ?_
    refine AQ.seq ?_
    refine AQ.seq ?_
    refine AQ.region ?_
    refine AQ.fieldv (.plain rfl) rfl rfl fo41_3 rfl ?_
    refine AQ.loadv1 (.plain rfl) rfl 1 rfl rfl ag39 rfl ?_
    refine AQ.slB (t := 44) rfl (fun z1 => ?_)
    simp only [List.length_map] at z1
    refine AQ.lenz (.plain rfl) (.sl rfl) rfl Tryz.underlying39 (by first | (simp only [List.length_map]; rfl) | rfl) ?_
    refine AQ.move (.plain rfl) rfl rfl ?_
    refine AQ.nil ?_
    refine AQ.then_n ?_
    refine AQ.block ?_
    refine AQ.loop (σ := Nat × Value) (fun s => [(1, .val (.pointer (some ⟨b1, 0, none⟩))), (3, .val s.2), (44, .sl 3 (snapRows h.snaps)), (45, I (h.snaps.length : Int)), (46, I (s.1 : Int))]) (fun s => .osl s.2 5 1 (byteRows (headPre h ++ (h.snaps.take s.1).flatMap snapB)) :: .box b1 41 h.cells :: H) (fun s => s.1 ≤ h.snaps.length) (fun s => h.snaps.length - s.1) (0, v13) (by simp) ⟨rfl, rfl, rfl, rfl, rfl, trivial⟩ (by simp [headPre]) (fun s hs => ?_)
    refine AQ.seq ?_
    refine AQ.region ?_
    refine AQ.lss (.plain rfl) rfl rfl rfl ?_
    refine AQ.nil ?_
    refine AQ.then_n ?_
    refine AQ.seq ?_
    refine AQ.cond_d rfl (fun h14 => ?_) (fun h14 => ?_)
    · refine AQ.skip ?_
      refine AQ.then_n ?_
      refine AQ.seq ?_
      refine AQ.block ?_
      refine AQ.seq ?_
      refine AQ.region ?_
      obtain ⟨x, hx⟩ := lgetz (l := h.snaps) (z := (s.1 : Int)) (by omega) (by omega)
      refine AQ.indexAddr (.plain rfl) rfl rfl rfl Tryz.underlying39 ag124 (by omega) (map_getz hx) ?_
      refine AQ.loadA (.plain rfl) rfl rfl ag124 rfl rfl ?_
      refine AQ.alloc (.plain rfl) zo124 rfl rfl (fun b15 => ?_)
      refine AQ.storevA (.plain rfl) rfl 0 rfl rfl ag124 rfl rfl ?_
      try simp only [List.set_cons_zero, List.set_cons_succ]
      refine AQ.nil ?_
      rw [Int.toNat_natCast] at hx
      refine AQ.then_n ?_
      refine AQ.seq ?_
      refine AQ.region ?_
      refine AQ.move (.plain rfl) rfl rfl ?_
      refine AQ.fieldv (.plain rfl) rfl rfl fo124_0 rfl ?_
      refine AQ.loadv1 (.plain rfl) rfl 0 rfl rfl ag3 rfl ?_
      refine AQ.freeze 1 rfl (fun J16 hJ16 hp16 => ?_)
      refine AQ.as (t := 50) rfl hp16 ?_
      refine AQ.callo (.plain rfl) rfl rfl en138 (wireNum _ 1 x.id _ (by have := headPre_len h; have := snapsB_len (h.snaps.take s.1); have := (show (h.snaps.take s.1).length ≤ 4 by rw [List.length_take]; have := (headErr_may (h := h) (by omega)).2.2.1; omega); simp only [List.length_append, numB_len1, w1, w2, w6, List.length_cons, List.length_nil]; omega)) (fun v17 => ?_)
      refine AQ.assign (.plain rfl) rfl rfl ?_
      refine AQ.nil ?_
      refine AQ.then_n ?_
      refine AQ.seq ?_
      refine AQ.region ?_
      refine AQ.move (.plain rfl) rfl rfl ?_
      refine AQ.fieldv (.plain rfl) rfl rfl fo124_1 rfl ?_
      refine AQ.loadv1 (.plain rfl) rfl 1 rfl rfl ag3 rfl ?_
      refine AQ.freeze 0 rfl (fun J18 hJ18 hp18 => ?_)
      refine AQ.as (t := 54) rfl hp18 ?_
      refine AQ.callo (.plain rfl) rfl rfl en138 (wireNum _ 2 x.size _ (by have := headPre_len h; have := snapsB_len (h.snaps.take s.1); have := (show (h.snaps.take s.1).length ≤ 4 by rw [List.length_take]; have := (headErr_may (h := h) (by omega)).2.2.1; omega); simp only [List.length_append, numB_len1, w1, w2, w6, List.length_cons, List.length_nil]; omega)) (fun v19 => ?_)
      refine AQ.assign (.plain rfl) rfl rfl ?_
      refine AQ.nil ?_
      refine AQ.then_n ?_
      refine AQ.region ?_
      refine AQ.move (.plain rfl) rfl rfl ?_
      refine AQ.fieldv (.plain rfl) rfl rfl fo124_2 rfl ?_
      refine AQ.loadv1 (.plain rfl) rfl 1 rfl rfl ag38 rfl ?_
      refine AQ.callo (.plain rfl) rfl rfl en140 (objmapPack x.map _) (fun v20 => ?_)
      refine AQ.freeze 1 rfl (fun J21 hJ21 hp21 => ?_)
      refine AQ.freeze 0 rfl (fun J22 hJ22 hp22 => ?_)
      refine AQ.as (t := 58) rfl (AV.mono _ hJ22 hp21) ?_
      refine AQ.as (t := 61) rfl hp22 ?_
      refine AQ.callo (.plain rfl) rfl rfl en139 (wireBlob _ (mapB x.map) _ (by have := headPre_len h; have := snapsB_len (h.snaps.take s.1); have := (show (h.snaps.take s.1).length ≤ 4 by rw [List.length_take]; have := (headErr_may (h := h) (by omega)).2.2.1; omega); simp only [List.length_append, numB_len1, w1, w2, w6, List.length_cons, List.length_nil]; omega)) (fun v23 => ?_)
      refine AQ.assign (.plain rfl) rfl rfl ?_
      refine AQ.nil ?_
      refine AQ.block_n ?_
      refine AQ.then_n ?_
      refine AQ.region ?_
      refine AQ.add (.plain rfl) rfl rfl rfl (i64_id (by omega) (by omega)) ?_
      refine AQ.move (.plain rfl) rfl rfl ?_
      refine AQ.nil ?_
      refine AQ.front 1 ?_
      refine AQ.dropN 1 ?_
      refine AQ.eqH (H' := _ :: _ :: H) rfl ?_
      exact AQ.again (Imm.le_trans (Imm.le_trans (Imm.le_trans hJ16 hJ18) hJ21) hJ22) (s.1 + 1, _) (by simp only; omega) (by simp only; omega) ⟨rfl, rfl, rfl, rfl, rfl, trivial⟩ (by simp only; rw [flat_step hx]; simp only [snapB, List.append_assoc])
    · refine AQ.exit ?_
      refine AQ.then_e ?_
      refine AQ.then_e ?_
      refine AQ.block_hit ?_
      refine AQ.then_n ?_
      refine AQ.seq ?_
      refine AQ.region ?_
      refine AQ.move (.plain rfl) rfl rfl ?_
      refine AQ.assign (.plain rfl) rfl rfl ?_
      refine AQ.nil ?_
      refine AQ.then_n ?_
      refine AQ.ret ?_
      refine AQ.freezeS 0 rfl (by simp [headPre]) (fun J24 hJ24 hp24 => ?_)
      refine AQ.as (t := 2) rfl hp24 ?_
      refine AQ.dropN 1 ?_
      refine AQ.eqH (H' := H) rfl ?_
      exact AQ.done1 (Imm.le_trans (Imm.le_trans (Imm.le_trans (Imm.le_trans (Imm.le_trans hJ4 hJ6) hJ9) hJ10) hJ12) hJ24) Tryz.results70 rfl ⟨(by rw [List.take_of_length_le (by omega)]; exact if_t (headErr_may (by omega))), rfl⟩
end Go.Fx
set_option linter.unusedVariables false
set_option linter.unusedSimpArgs false
set_option maxRecDepth 100000
namespace Go.Fx
open Go Go.Proofs

theorem headTable (p : Nat) (r : Rdr) (H : List HA)  : AC Tryz.prog 143 [.val (.pointer (some ⟨p, 0, none⟩)), .val (.func (.func 144) [Value.pointer (some ⟨p, 0, none⟩)].toArray ([] : List Value).toArray)] ((.box p 267 r.cells :: H)) (fun x H' => x = ints r.table.2 ∧ H' = .box p 267 r.table.1.cells :: H) := by
  refine AC.enter Tryz.func143 rfl Tryz.ntmps143 rfl (fun I0 => ?_)
  refine AQ.seq ?_
  refine AQ.region ?_
  refine AQ.assign (.plain rfl) rfl rfl ?_
  refine AQ.nil ?_
  refine AQ.then_n ?_
  refine AQ.seq ?_
  refine AQ.region ?_
  refine AQ.move (.plain rfl) rfl rfl ?_
  refine AQ.callo (.plain rfl) rfl rfl en210 (readerBlob _ _ _ _) (fun v1 => ?_)
  refine AQ.assign (.plain rfl) rfl rfl ?_
  refine AQ.nil ?_
  refine AQ.then_n ?_
  refine AQ.seq ?_
  refine AQ.seq ?_
  refine AQ.region ?_
  refine AQ.move (.plain rfl) rfl rfl ?_
  refine AQ.front 1 ?_
  refine AQ.callf (.plain rfl) rfl rfl en145 (readerErr _ _ _) ?_
  refine AQ.neq (.plain rfl) rfl rfl rfl ?_
  refine AQ.nil ?_
  refine AQ.then_n ?_
  refine AQ.cond_d rfl (fun h2 => ?_) (fun h2 => ?_)
  · refine AQ.seq ?_
    refine AQ.region ?_
    refine AQ.assign (.plain rfl) rfl rfl ?_
    refine AQ.nil ?_
    refine AQ.then_n ?_
    refine AQ.ret ?_
    refine AQ.then_r ?_
    refine AQ.nilW (t := 4) (m := 1) rfl ?_
    refine AQ.front 1 ?_
    refine AQ.dropN 1 ?_
    refine AQ.eqH (H' := _ :: H) rfl ?_
    exact AQ.done1 (Imm.le_refl _) Tryz.results143 rfl (by have e : r.table = ((r.blob 200).1, []) := (by unfold Rdr.table; simp only; rw [if_pos (by assumption)]); exact ⟨by rw [e]; rfl, by rw [e]⟩)
  · refine AQ.skip ?_
    refine AQ.then_n ?_
    refine AQ.seq ?_
    refine AQ.region ?_
    refine AQ.move (.plain rfl) rfl rfl ?_
    refine AQ.freeze 1 rfl (fun J3 hJ3 hp3 => ?_)
    refine AQ.as (t := 14) rfl hp3 ?_
    refine AQ.callf (.plain rfl) rfl rfl en211 (objmapUnpack (r.blob 200).2 _) ?_
    refine AQ.move (.plain rfl) rfl rfl ?_
    refine AQ.extract (.plain rfl) rfl rfl rfl ?_
    refine AQ.extract (.plain rfl) rfl rfl rfl ?_
    refine AQ.assign (.plain rfl) rfl rfl ?_
    refine AQ.assign (.plain rfl) rfl rfl ?_
    refine AQ.nil ?_
    refine AQ.then_n ?_
    refine AQ.seq ?_
    refine AQ.seq ?_
    refine AQ.region ?_
    refine AQ.move (.plain rfl) rfl rfl ?_
    refine AQ.not_d (.plain rfl) rfl rfl ?_
    refine AQ.nil ?_
    refine AQ.then_n ?_
    refine AQ.cond_d rfl (fun h4 => ?_) (fun h4 => ?_)
    · refine AQ.region ?_
      refine AQ.move (.plain rfl) rfl rfl ?_
      refine AQ.callvf (first := [_]) (cap := []) (.plain rfl) rfl rfl rfl en144 (readerFail _ _ _ _) ?_
      refine AQ.nil ?_
      refine AQ.then_n ?_
      refine AQ.seq ?_
      refine AQ.region ?_
      refine AQ.move (.plain rfl) rfl rfl ?_
      refine AQ.assign (.plain rfl) rfl rfl ?_
      refine AQ.nil ?_
      refine AQ.then_n ?_
      refine AQ.ret ?_
      exact AQ.done1 hJ3 Tryz.results143 rfl (by have e : r.table = ((r.blob 200).1.fail 11, unpackV (r.blob 200).2) := (by unfold Rdr.table; simp only; rw [if_neg (by assumption), if_neg (by assumption)]); exact ⟨by rw [e], by rw [e]; rfl⟩)
    · refine AQ.skip ?_
      refine AQ.then_n ?_
      refine AQ.seq ?_
      refine AQ.region ?_
      refine AQ.move (.plain rfl) rfl rfl ?_
      refine AQ.assign (.plain rfl) rfl rfl ?_
      refine AQ.nil ?_
      refine AQ.then_n ?_
      refine AQ.ret ?_
      exact AQ.done1 hJ3 Tryz.results143 rfl (by have e : r.table = ((r.blob 200).1, unpackV (r.blob 200).2) := (by unfold Rdr.table; simp only; rw [if_neg (by assumption), if_pos (Decidable.not_not.1 (by assumption))]); exact ⟨by rw [e], by rw [e]; rfl⟩)
end Go.Fx
set_option linter.unusedVariables false
set_option linter.unusedSimpArgs false
set_option maxRecDepth 100000
namespace Go.Fx
open Go Go.Proofs

theorem headUnpack_ (b : List UInt8) (H : List HA) (y0 : b.length ≤ 1099511627776) : AC Tryz.prog 71 [bytes b] (H) (fun r' H' => r' = (.tup [.agg (headUnpack b).1.cells, I (headUnpack b).2]) ∧ H' = H) := by
  refine AC.enter Tryz.func71 rfl Tryz.ntmps71 rfl (fun I0 => ?_)
  have hn : 0 ≤ (Rdr.r8 b).2 ∧ (Rdr.r8 b).2 < 256 ^ 1 := Rdr.num_range (Rdr.r7 b).1 (w := 1) (k := 1) (by decide)
  refine AQ.seq ?_
  refine AQ.region ?_
  refine AQ.alloc (.plain rfl) zo41 rfl rfl (fun b1 => ?_)
  refine AQ.assign (.plain rfl) rfl rfl ?_
  refine AQ.nil ?_
  refine AQ.then_n ?_
  refine AQ.seq ?_
  refine AQ.region ?_
  refine AQ.move (.plain rfl) rfl rfl ?_
  refine AQ.callo (.plain rfl) rfl rfl en141 (wireRead _ _ (by omega)) (fun b2 => ?_)
  refine AQ.assign (.plain rfl) rfl rfl ?_
  refine AQ.nil ?_
  refine AQ.then_n ?_
  refine AQ.seq ?_
  refine AQ.region ?_
  refine AQ.build (.plain rfl) rfl zo41 rfl pl41 .nil ?_
  refine AQ.alloc (.plain rfl) zo41 rfl rfl (fun b3 => ?_)
  refine AQ.storevA (.plain rfl) rfl 0 rfl rfl ag41 rfl rfl ?_
  try simp only [List.set_cons_zero, List.set_cons_succ]
  refine AQ.nil ?_
  refine AQ.then_n ?_
  refine AQ.seq ?_
  refine AQ.region ?_
  refine AQ.move (.plain rfl) rfl rfl ?_
  refine AQ.front 1 ?_
  refine AQ.callf (.plain rfl) rfl rfl en142 (readerNum _ _ _ _) ?_
  refine AQ.move (.plain rfl) rfl rfl ?_
  refine AQ.callf (.plain rfl) rfl rfl en142 (readerNum _ _ _ _) ?_
  refine AQ.move (.plain rfl) rfl rfl ?_
  refine AQ.callf (.plain rfl) rfl rfl en142 (readerNum _ _ _ _) ?_
  refine AQ.fieldv (.plain rfl) rfl rfl fo41_0 rfl ?_
  refine AQ.fieldv (.plain rfl) rfl rfl fo37_0 rfl ?_
  refine AQ.storev1 (.plain rfl) rfl 1 rfl rfl (.val rfl) ag3 rfl ?_
  try simp only [List.set_cons_zero, List.set_cons_succ]
  refine AQ.fieldv (.plain rfl) rfl rfl fo41_0 rfl ?_
  refine AQ.fieldv (.plain rfl) rfl rfl fo37_1 rfl ?_
  refine AQ.storev1 (.plain rfl) rfl 1 rfl rfl (.val rfl) ag3 rfl ?_
  try simp only [List.set_cons_zero, List.set_cons_succ]
  refine AQ.fieldv (.plain rfl) rfl rfl fo41_0 rfl ?_
  refine AQ.fieldv (.plain rfl) rfl rfl fo37_2 rfl ?_
  refine AQ.storev1 (.plain rfl) rfl 1 rfl rfl (.val rfl) ag3 rfl ?_
  try simp only [List.set_cons_zero, List.set_cons_succ]
  refine AQ.nil ?_
  refine AQ.then_n ?_
  refine AQ.seq ?_
  refine AQ.region ?_
  refine AQ.move (.plain rfl) rfl rfl ?_
  refine AQ.callf (.plain rfl) rfl rfl en142 (readerNum _ _ _ _) ?_
  refine AQ.fieldv (.plain rfl) rfl rfl fo41_4 rfl ?_
  refine AQ.storev1 (.plain rfl) rfl 1 rfl rfl (.val rfl) ag3 rfl ?_
  try simp only [List.set_cons_zero, List.set_cons_succ]
  refine AQ.nil ?_
  refine AQ.then_n ?_
  refine AQ.seq ?_
  refine AQ.region ?_
  refine AQ.move (.plain rfl) rfl rfl ?_
  refine AQ.callf (.plain rfl) rfl rfl en142 (readerNum _ _ _ _) ?_
  refine AQ.fieldv (.plain rfl) rfl rfl fo41_1 rfl ?_
  refine AQ.storev1 (.plain rfl) rfl 1 rfl rfl (.val rfl) ag3 rfl ?_
  try simp only [List.set_cons_zero, List.set_cons_succ]
  refine AQ.nil ?_
  refine AQ.then_n ?_
  refine AQ.seq ?_
  refine AQ.region ?_
  refine AQ.move (.plain rfl) rfl rfl ?_
  refine AQ.callf (.plain rfl) rfl rfl en142 (readerNum _ _ _ _) ?_
  refine AQ.fieldv (.plain rfl) rfl rfl fo41_5 rfl ?_
  refine AQ.storev1 (.plain rfl) rfl 1 rfl rfl (.val rfl) ag3 rfl ?_
  try simp only [List.set_cons_zero, List.set_cons_succ]
  refine AQ.nil ?_
  refine AQ.then_n ?_
  refine AQ.seq ?_
  refine AQ.region ?_
  refine AQ.move (.plain rfl) rfl rfl ?_
  refine AQ.move (.plain rfl) rfl rfl ?_
  refine AQ.makeFunc (fs := [_]) (cs := []) (.plain rfl) rfl rfl rfl ?_
  refine AQ.callf (.plain rfl) rfl rfl en143 (headTable _ _ _) ?_
  refine AQ.fieldv (.plain rfl) rfl rfl fo41_2 rfl ?_
  refine AQ.storev1 (.plain rfl) rfl 1 rfl rfl .sl ag38 rfl ?_
  try simp only [List.set_cons_zero, List.set_cons_succ]
  refine AQ.nil ?_
  refine AQ.then_n ?_
  refine AQ.seq ?_
  refine AQ.region ?_
  refine AQ.move (.plain rfl) rfl rfl ?_
  refine AQ.callf (.plain rfl) rfl rfl en142 (readerNum _ _ _ _) ?_
  refine AQ.assign (.plain rfl) rfl rfl ?_
  refine AQ.nil ?_
  refine AQ.then_n ?_
  refine AQ.seq ?_
  refine AQ.seq ?_
  refine AQ.region ?_
  refine AQ.move (.plain rfl) rfl rfl ?_
  refine AQ.gtr (.plain rfl) rfl rfl rfl ?_
  refine AQ.nil ?_
  refine AQ.then_n ?_
  refine AQ.cond_d rfl (fun h4 => ?_) (fun h4 => ?_)
  · refine AQ.region ?_
    refine AQ.move (.plain rfl) rfl rfl ?_
    refine AQ.callf (.plain rfl) rfl rfl en144 (readerFail _ _ _ _) ?_
    refine AQ.nil ?_
    refine AQ.then_n ?_
    refine AQ.seq ?_
    refine AQ.seq ?_
    refine AQ.region ?_
    refine AQ.move (.plain rfl) rfl rfl ?_
    refine AQ.move (.plain rfl) rfl rfl ?_
    refine AQ.nil ?_
    refine AQ.then_n ?_
    refine AQ.block ?_
    refine AQ.ownNil (A := none) 124 3 ?_
    refine AQ.loop (σ := Nat × Rdr × List Snap × Value) (fun s => [(2, .val (.pointer (some ⟨b1, 0, none⟩))), (4, .val (.pointer (some ⟨b2, 0, none⟩))), (5, .val (.pointer (some ⟨b3, 0, none⟩))), (45, I (Rdr.r8 b).2), (46, I (s.1 : Int))]) (fun s => .osl s.2.2.2 124 3 (snapRows s.2.2.1) :: .box b2 267 s.2.1.cells :: .box b3 41 [I (Rdr.r1 b).2, I (Rdr.r2 b).2, I (Rdr.r3 b).2, I (Rdr.r5 b).2, ints (Rdr.r7 b).2, .val s.2.2.2, I (Rdr.r4 b).2, I (Rdr.r6 b).2] :: .box b1 41 zeroHead :: H) (fun s => (s.1 : Int) ≤ (Rdr.r8 b).2 ∧ s.2.2.1.length = s.1 ∧ Rdr.ss b = ((Rdr.snaps ((Rdr.r8 b).2.toNat - s.1) s.2.1).1, s.2.2.1 ++ (Rdr.snaps ((Rdr.r8 b).2.toNat - s.1) s.2.1).2)) (fun s => (Rdr.r8 b).2.toNat - s.1) (0, Rdr.r9 b, [], Value.slice none 0 0) ⟨by simp; exact hn.1, rfl, by simp [Rdr.ss]⟩ ⟨rfl, rfl, rfl, rfl, rfl, trivial⟩ (by first | (rw [show Rdr.r9 b = (Rdr.r8 b).1.fail 11 from if_pos (by assumption)]; rfl) | (rw [show Rdr.r9 b = (Rdr.r8 b).1 from if_neg (by assumption)]; rfl)) (fun s hs => ?_)
    refine AQ.seq ?_
    refine AQ.region ?_
    refine AQ.lss (.plain rfl) rfl rfl rfl ?_
    refine AQ.nil ?_
    refine AQ.then_n ?_
    refine AQ.seq ?_
    refine AQ.cond_d rfl (fun h5 => ?_) (fun h5 => ?_)
    · refine AQ.skip ?_
      refine AQ.then_n ?_
      refine AQ.seq ?_
      refine AQ.block ?_
      refine AQ.seq ?_
      refine AQ.seq ?_
      refine AQ.region ?_
      refine AQ.move (.plain rfl) rfl rfl ?_
      refine AQ.front 1 ?_
      refine AQ.callf (.plain rfl) rfl rfl en145 (readerErr _ _ _) ?_
      refine AQ.neq (.plain rfl) rfl rfl rfl ?_
      refine AQ.nil ?_
      refine AQ.then_n ?_
      refine AQ.cond_d rfl (fun h6 => ?_) (fun h6 => ?_)
      · refine AQ.exit ?_
        refine AQ.then_e ?_
        refine AQ.block_miss rfl ?_
        refine AQ.then_e ?_
        refine AQ.then_e ?_
        refine AQ.block_hit ?_
        refine AQ.then_n ?_
        refine AQ.seq ?_
        refine AQ.seq ?_
        refine AQ.region ?_
        have hss : Rdr.ss b = (s.2.1, s.2.2.1) := (by rw [hs.2.2]; first | (rw [show (Rdr.r8 b).2.toNat - s.1 = 0 by omega]; simp [Rdr.snaps]) | (cases hk : (Rdr.r8 b).2.toNat - s.1 <;> simp [Rdr.snaps, *]))
        refine AQ.move (.plain rfl) rfl rfl ?_
        refine AQ.callf (.plain rfl) rfl rfl en146 (readerEnd _ _ _) ?_
        refine AQ.assign (.plain rfl) rfl rfl ?_
        refine AQ.nil ?_
        refine AQ.then_n ?_
        refine AQ.seq ?_
        refine AQ.region ?_
        refine AQ.move (.plain rfl) rfl rfl ?_
        refine AQ.neq (.plain rfl) rfl rfl rfl ?_
        refine AQ.nil ?_
        refine AQ.then_n ?_
        refine AQ.cond_d rfl (fun h7 => ?_) (fun h7 => ?_)
        · refine AQ.seq ?_
          refine AQ.region ?_
          refine AQ.build (.plain rfl) rfl zo41 rfl pl41 .nil ?_
          refine AQ.move (.plain rfl) rfl rfl ?_
          refine AQ.storevA (.plain rfl) rfl 3 rfl rfl ag41 rfl rfl ?_
          try simp only [List.set_cons_zero, List.set_cons_succ]
          refine AQ.assign (.plain rfl) rfl rfl ?_
          refine AQ.nil ?_
          refine AQ.then_n ?_
          refine AQ.ret ?_
          refine AQ.then_r ?_
          refine AQ.boxW (m := Head.zero.cells) 3 rfl (by repeat (first | exact ImpL.nil | apply ImpL.same | apply ImpL.sl0)) ?_
          try simp only [List.set_cons_zero, List.set_cons_succ]
          refine AQ.dropN 1 ?_
          refine AQ.dropN 1 ?_
          refine AQ.dropN 1 ?_
          refine AQ.eqH (H' := _ :: H) rfl ?_
          exact AQ.doneC (H' := H) (Imm.le_refl _) Tryz.results71 (.cellA 0 rfl rfl ag41 rfl (.tmp rfl .nil)) 1 rfl ⟨(by rw [show headUnpack b = (Head.zero, s.2.1.end_.e) by unfold headUnpack; rw [hss]; exact if_pos (by assumption)]; rfl), rfl⟩
        · refine AQ.skip ?_
          refine AQ.then_n ?_
          refine AQ.seq ?_
          refine AQ.seq ?_
          refine AQ.region ?_
          refine AQ.freeze 1 rfl (fun J8 hJ8 hp8 => ?_)
          refine AQ.boxAs 1 5 rfl rfl hp8 ?_
          try simp only [List.set_cons_zero, List.set_cons_succ]
          rw [show s.2.2.1 = (Rdr.ss b).2 by rw [hss]]
          refine AQ.loadvA (.plain rfl) rfl 1 rfl rfl ag41 rfl rfl ?_
          refine AQ.callf (.plain rfl) rfl rfl en60 (headCheck (rawHead b) _) ?_
          refine AQ.assign (.plain rfl) rfl rfl ?_
          refine AQ.nil ?_
          refine AQ.then_n ?_
          refine AQ.seq ?_
          refine AQ.region ?_
          refine AQ.move (.plain rfl) rfl rfl ?_
          refine AQ.neq (.plain rfl) rfl rfl rfl ?_
          refine AQ.nil ?_
          refine AQ.then_n ?_
          refine AQ.cond_d rfl (fun h9 => ?_) (fun h9 => ?_)
          · refine AQ.seq ?_
            refine AQ.region ?_
            refine AQ.build (.plain rfl) rfl zo41 rfl pl41 .nil ?_
            refine AQ.move (.plain rfl) rfl rfl ?_
            refine AQ.storevA (.plain rfl) rfl 2 rfl rfl ag41 rfl rfl ?_
            try simp only [List.set_cons_zero, List.set_cons_succ]
            refine AQ.assign (.plain rfl) rfl rfl ?_
            refine AQ.nil ?_
            refine AQ.then_n ?_
            refine AQ.ret ?_
            refine AQ.then_r ?_
            refine AQ.boxW (m := Head.zero.cells) 2 rfl (by repeat (first | exact ImpL.nil | apply ImpL.same | apply ImpL.sl0)) ?_
            try simp only [List.set_cons_zero, List.set_cons_succ]
            refine AQ.dropN 1 ?_
            refine AQ.dropN 1 ?_
            refine AQ.eqH (H' := _ :: H) rfl ?_
            exact AQ.doneC (H' := H) hJ8 Tryz.results71 (.cellA 0 rfl rfl ag41 rfl (.tmp rfl .nil)) 1 rfl ⟨(by rw [show headUnpack b = (Head.zero, headErr (rawHead b)) by unfold headUnpack; rw [hss, if_neg (by assumption)]; exact if_pos (by assumption)]; rfl), rfl⟩
          · refine AQ.skip ?_
            refine AQ.then_n ?_
            refine AQ.seq ?_
            refine AQ.region ?_
            refine AQ.loadvA (.plain rfl) rfl 1 rfl rfl ag41 rfl rfl ?_
            refine AQ.storevA (.plain rfl) rfl 2 rfl rfl ag41 rfl rfl ?_
            try simp only [List.set_cons_zero, List.set_cons_succ]
            refine AQ.assign (.plain rfl) rfl rfl ?_
            refine AQ.nil ?_
            refine AQ.then_n ?_
            refine AQ.ret ?_
            refine AQ.dropN 1 ?_
            refine AQ.dropN 1 ?_
            refine AQ.eqH (H' := _ :: H) rfl ?_
            exact AQ.doneC (H' := H) hJ8 Tryz.results71 (.cellA 0 rfl rfl ag41 rfl (.tmp rfl .nil)) 1 rfl ⟨(by rw [show headUnpack b = (rawHead b, 0) by unfold headUnpack; rw [hss, if_neg (by assumption)]; exact if_neg (by assumption)]; rfl), rfl⟩
      · refine AQ.skip ?_
        refine AQ.then_n ?_
        refine AQ.seq ?_
        refine AQ.region ?_
        refine AQ.build (.plain rfl) rfl zo124 rfl pl124 .nil ?_
        refine AQ.alloc (.plain rfl) zo124 rfl rfl (fun b10 => ?_)
        refine AQ.storevA (.plain rfl) rfl 0 rfl rfl ag124 rfl rfl ?_
        try simp only [List.set_cons_zero, List.set_cons_succ]
        refine AQ.nil ?_
        refine AQ.then_n ?_
        refine AQ.seq ?_
        refine AQ.region ?_
        refine AQ.move (.plain rfl) rfl rfl ?_
        refine AQ.front 1 ?_
        refine AQ.callf (.plain rfl) rfl rfl en142 (readerNum _ _ _ _) ?_
        refine AQ.fieldv (.plain rfl) rfl rfl fo124_0 rfl ?_
        refine AQ.storev1 (.plain rfl) rfl 1 rfl rfl (.val rfl) ag3 rfl ?_
        try simp only [List.set_cons_zero, List.set_cons_succ]
        refine AQ.nil ?_
        refine AQ.then_n ?_
        refine AQ.seq ?_
        refine AQ.region ?_
        refine AQ.move (.plain rfl) rfl rfl ?_
        refine AQ.callf (.plain rfl) rfl rfl en142 (readerNum _ _ _ _) ?_
        refine AQ.fieldv (.plain rfl) rfl rfl fo124_1 rfl ?_
        refine AQ.storev1 (.plain rfl) rfl 1 rfl rfl (.val rfl) ag3 rfl ?_
        try simp only [List.set_cons_zero, List.set_cons_succ]
        refine AQ.nil ?_
        refine AQ.then_n ?_
        refine AQ.seq ?_
        refine AQ.region ?_
        refine AQ.move (.plain rfl) rfl rfl ?_
        refine AQ.move (.plain rfl) rfl rfl ?_
        refine AQ.makeFunc (fs := [_]) (cs := []) (.plain rfl) rfl rfl rfl ?_
        refine AQ.callf (.plain rfl) rfl rfl en143 (headTable _ _ _) ?_
        refine AQ.fieldv (.plain rfl) rfl rfl fo124_2 rfl ?_
        refine AQ.storev1 (.plain rfl) rfl 1 rfl rfl .sl ag38 rfl ?_
        try simp only [List.set_cons_zero, List.set_cons_succ]
        refine AQ.nil ?_
        refine AQ.then_n ?_
        refine AQ.region ?_
        refine AQ.fieldv (.plain rfl) rfl rfl fo41_3 rfl ?_
        refine AQ.loadv1 (.plain rfl) rfl 3 rfl rfl ag39 rfl ?_
        refine AQ.loadvA (.plain rfl) rfl 1 rfl rfl ag124 rfl rfl ?_
        refine AQ.buildSlice (rows := [[_, _, _]]) (.plain rfl) rfl Tryz.underlying39 el124 zo124 rfl rfl rfl (.agg rfl rfl rfl .nil) rfl rfl (by simp) (fun u11 => ?_)
        refine AQ.append (.plain rfl) rfl 3 rfl (.osl rfl 0 rfl) rfl Tryz.underlying39 el124 rfl rfl (by simp only [List.length_cons, List.length_nil, List.length_map, List.length_append, List.length_range]; omega) (fun v12 => ?_)
        try simp only [List.set_cons_zero, List.set_cons_succ]
        refine AQ.fieldv (.plain rfl) rfl rfl fo41_3 rfl ?_
        refine AQ.oslOne 3 rfl (fun ho13 => ?_)
        refine AQ.storev1 (.plain rfl) rfl 4 rfl rfl (.val ho13) ag39 rfl ?_
        try simp only [List.set_cons_zero, List.set_cons_succ]
        refine AQ.nil ?_
        refine AQ.block_n ?_
        refine AQ.then_n ?_
        refine AQ.region ?_
        refine AQ.add (.plain rfl) rfl rfl rfl (i64_id (by omega) (by omega)) ?_
        refine AQ.move (.plain rfl) rfl rfl ?_
        refine AQ.nil ?_
        refine AQ.dropN 1 ?_
        refine AQ.front 1 ?_
        refine AQ.dropN 1 ?_
        refine AQ.front 3 ?_
        refine AQ.front 3 ?_
        refine AQ.front 2 ?_
        refine AQ.front 3 ?_
        refine AQ.eqH (H' := _ :: _ :: _ :: _ :: H) rfl ?_
        exact AQ.again (Imm.le_refl _) (s.1 + 1, ((s.2.1.num 1).1.num 2).1.table.1, s.2.2.1 ++ [⟨(s.2.1.num 1).2, ((s.2.1.num 1).1.num 2).2, ((s.2.1.num 1).1.num 2).1.table.2⟩], _) ⟨by simp only; omega, by simp [hs.2.1], by rw [hs.2.2, show (Rdr.r8 b).2.toNat - s.1 = ((Rdr.r8 b).2.toNat - (s.1 + 1)) + 1 by omega, Rdr.snaps, if_neg (by assumption)]; simp⟩ (by simp only; omega) ⟨rfl, rfl, rfl, rfl, rfl, trivial⟩ (by simp only [snapRows, List.map_append, List.map_cons, List.map_nil]; rfl)
    · refine AQ.exit ?_
      refine AQ.then_e ?_
      refine AQ.then_e ?_
      refine AQ.block_hit ?_
      refine AQ.then_n ?_
      refine AQ.seq ?_
      refine AQ.seq ?_
      refine AQ.region ?_
      have hss : Rdr.ss b = (s.2.1, s.2.2.1) := (by rw [hs.2.2]; first | (rw [show (Rdr.r8 b).2.toNat - s.1 = 0 by omega]; simp [Rdr.snaps]) | (cases hk : (Rdr.r8 b).2.toNat - s.1 <;> simp [Rdr.snaps, *]))
      refine AQ.move (.plain rfl) rfl rfl ?_
      refine AQ.front 1 ?_
      refine AQ.callf (.plain rfl) rfl rfl en146 (readerEnd _ _ _) ?_
      refine AQ.assign (.plain rfl) rfl rfl ?_
      refine AQ.nil ?_
      refine AQ.then_n ?_
      refine AQ.seq ?_
      refine AQ.region ?_
      refine AQ.move (.plain rfl) rfl rfl ?_
      refine AQ.neq (.plain rfl) rfl rfl rfl ?_
      refine AQ.nil ?_
      refine AQ.then_n ?_
      refine AQ.cond_d rfl (fun h14 => ?_) (fun h14 => ?_)
      · refine AQ.seq ?_
        refine AQ.region ?_
        refine AQ.build (.plain rfl) rfl zo41 rfl pl41 .nil ?_
        refine AQ.move (.plain rfl) rfl rfl ?_
        refine AQ.storevA (.plain rfl) rfl 3 rfl rfl ag41 rfl rfl ?_
        try simp only [List.set_cons_zero, List.set_cons_succ]
        refine AQ.assign (.plain rfl) rfl rfl ?_
        refine AQ.nil ?_
        refine AQ.then_n ?_
        refine AQ.ret ?_
        refine AQ.then_r ?_
        refine AQ.boxW (m := Head.zero.cells) 3 rfl (by repeat (first | exact ImpL.nil | apply ImpL.same | apply ImpL.sl0)) ?_
        try simp only [List.set_cons_zero, List.set_cons_succ]
        refine AQ.dropN 1 ?_
        refine AQ.dropN 1 ?_
        refine AQ.dropN 1 ?_
        refine AQ.eqH (H' := _ :: H) rfl ?_
        exact AQ.doneC (H' := H) (Imm.le_refl _) Tryz.results71 (.cellA 0 rfl rfl ag41 rfl (.tmp rfl .nil)) 1 rfl ⟨(by rw [show headUnpack b = (Head.zero, s.2.1.end_.e) by unfold headUnpack; rw [hss]; exact if_pos (by assumption)]; rfl), rfl⟩
      · refine AQ.skip ?_
        refine AQ.then_n ?_
        refine AQ.seq ?_
        refine AQ.seq ?_
        refine AQ.region ?_
        refine AQ.freeze 1 rfl (fun J15 hJ15 hp15 => ?_)
        refine AQ.boxAs 1 5 rfl rfl hp15 ?_
        try simp only [List.set_cons_zero, List.set_cons_succ]
        rw [show s.2.2.1 = (Rdr.ss b).2 by rw [hss]]
        refine AQ.loadvA (.plain rfl) rfl 1 rfl rfl ag41 rfl rfl ?_
        refine AQ.callf (.plain rfl) rfl rfl en60 (headCheck (rawHead b) _) ?_
        refine AQ.assign (.plain rfl) rfl rfl ?_
        refine AQ.nil ?_
        refine AQ.then_n ?_
        refine AQ.seq ?_
        refine AQ.region ?_
        refine AQ.move (.plain rfl) rfl rfl ?_
        refine AQ.neq (.plain rfl) rfl rfl rfl ?_
        refine AQ.nil ?_
        refine AQ.then_n ?_
        refine AQ.cond_d rfl (fun h16 => ?_) (fun h16 => ?_)
        · refine AQ.seq ?_
          refine AQ.region ?_
          refine AQ.build (.plain rfl) rfl zo41 rfl pl41 .nil ?_
          refine AQ.move (.plain rfl) rfl rfl ?_
          refine AQ.storevA (.plain rfl) rfl 2 rfl rfl ag41 rfl rfl ?_
          try simp only [List.set_cons_zero, List.set_cons_succ]
          refine AQ.assign (.plain rfl) rfl rfl ?_
          refine AQ.nil ?_
          refine AQ.then_n ?_
          refine AQ.ret ?_
          refine AQ.then_r ?_
          refine AQ.boxW (m := Head.zero.cells) 2 rfl (by repeat (first | exact ImpL.nil | apply ImpL.same | apply ImpL.sl0)) ?_
          try simp only [List.set_cons_zero, List.set_cons_succ]
          refine AQ.dropN 1 ?_
          refine AQ.dropN 1 ?_
          refine AQ.eqH (H' := _ :: H) rfl ?_
          exact AQ.doneC (H' := H) hJ15 Tryz.results71 (.cellA 0 rfl rfl ag41 rfl (.tmp rfl .nil)) 1 rfl ⟨(by rw [show headUnpack b = (Head.zero, headErr (rawHead b)) by unfold headUnpack; rw [hss, if_neg (by assumption)]; exact if_pos (by assumption)]; rfl), rfl⟩
        · refine AQ.skip ?_
          refine AQ.then_n ?_
          refine AQ.seq ?_
          refine AQ.region ?_
          refine AQ.loadvA (.plain rfl) rfl 1 rfl rfl ag41 rfl rfl ?_
          refine AQ.storevA (.plain rfl) rfl 2 rfl rfl ag41 rfl rfl ?_
          try simp only [List.set_cons_zero, List.set_cons_succ]
          refine AQ.assign (.plain rfl) rfl rfl ?_
          refine AQ.nil ?_
          refine AQ.then_n ?_
          refine AQ.ret ?_
          refine AQ.dropN 1 ?_
          refine AQ.dropN 1 ?_
          refine AQ.eqH (H' := _ :: H) rfl ?_
          exact AQ.doneC (H' := H) hJ15 Tryz.results71 (.cellA 0 rfl rfl ag41 rfl (.tmp rfl .nil)) 1 rfl ⟨(by rw [show headUnpack b = (rawHead b, 0) by unfold headUnpack; rw [hss, if_neg (by assumption)]; exact if_neg (by assumption)]; rfl), rfl⟩
  · refine AQ.skip ?_
    refine AQ.then_n ?_
    refine AQ.seq ?_
    refine AQ.seq ?_
    refine AQ.region ?_
    refine AQ.move (.plain rfl) rfl rfl ?_
    refine AQ.move (.plain rfl) rfl rfl ?_
    refine AQ.nil ?_
    refine AQ.then_n ?_
    refine AQ.block ?_
    refine AQ.ownNil (A := none) 124 3 ?_
    refine AQ.loop (σ := Nat × Rdr × List Snap × Value) (fun s => [(2, .val (.pointer (some ⟨b1, 0, none⟩))), (4, .val (.pointer (some ⟨b2, 0, none⟩))), (5, .val (.pointer (some ⟨b3, 0, none⟩))), (45, I (Rdr.r8 b).2), (46, I (s.1 : Int))]) (fun s => .osl s.2.2.2 124 3 (snapRows s.2.2.1) :: .box b2 267 s.2.1.cells :: .box b3 41 [I (Rdr.r1 b).2, I (Rdr.r2 b).2, I (Rdr.r3 b).2, I (Rdr.r5 b).2, ints (Rdr.r7 b).2, .val s.2.2.2, I (Rdr.r4 b).2, I (Rdr.r6 b).2] :: .box b1 41 zeroHead :: H) (fun s => (s.1 : Int) ≤ (Rdr.r8 b).2 ∧ s.2.2.1.length = s.1 ∧ Rdr.ss b = ((Rdr.snaps ((Rdr.r8 b).2.toNat - s.1) s.2.1).1, s.2.2.1 ++ (Rdr.snaps ((Rdr.r8 b).2.toNat - s.1) s.2.1).2)) (fun s => (Rdr.r8 b).2.toNat - s.1) (0, Rdr.r9 b, [], Value.slice none 0 0) ⟨by simp; exact hn.1, rfl, by simp [Rdr.ss]⟩ ⟨rfl, rfl, rfl, rfl, rfl, trivial⟩ (by first | (rw [show Rdr.r9 b = (Rdr.r8 b).1.fail 11 from if_pos (by assumption)]; rfl) | (rw [show Rdr.r9 b = (Rdr.r8 b).1 from if_neg (by assumption)]; rfl)) (fun s hs => ?_)
    refine AQ.seq ?_
    refine AQ.region ?_
    refine AQ.lss (.plain rfl) rfl rfl rfl ?_
    refine AQ.nil ?_
    refine AQ.then_n ?_
    refine AQ.seq ?_
    refine AQ.cond_d rfl (fun h17 => ?_) (fun h17 => ?_)
    · refine AQ.skip ?_
      refine AQ.then_n ?_
      refine AQ.seq ?_
      refine AQ.block ?_
      refine AQ.seq ?_
      refine AQ.seq ?_
      refine AQ.region ?_
      refine AQ.move (.plain rfl) rfl rfl ?_
      refine AQ.front 1 ?_
      refine AQ.callf (.plain rfl) rfl rfl en145 (readerErr _ _ _) ?_
      refine AQ.neq (.plain rfl) rfl rfl rfl ?_
      refine AQ.nil ?_
      refine AQ.then_n ?_
      refine AQ.cond_d rfl (fun h18 => ?_) (fun h18 => ?_)
      · refine AQ.exit ?_
        refine AQ.then_e ?_
        refine AQ.block_miss rfl ?_
        refine AQ.then_e ?_
        refine AQ.then_e ?_
        refine AQ.block_hit ?_
        refine AQ.then_n ?_
        refine AQ.seq ?_
        refine AQ.seq ?_
        refine AQ.region ?_
        have hss : Rdr.ss b = (s.2.1, s.2.2.1) := (by rw [hs.2.2]; first | (rw [show (Rdr.r8 b).2.toNat - s.1 = 0 by omega]; simp [Rdr.snaps]) | (cases hk : (Rdr.r8 b).2.toNat - s.1 <;> simp [Rdr.snaps, *]))
        refine AQ.move (.plain rfl) rfl rfl ?_
        refine AQ.callf (.plain rfl) rfl rfl en146 (readerEnd _ _ _) ?_
        refine AQ.assign (.plain rfl) rfl rfl ?_
        refine AQ.nil ?_
        refine AQ.then_n ?_
        refine AQ.seq ?_
        refine AQ.region ?_
        refine AQ.move (.plain rfl) rfl rfl ?_
        refine AQ.neq (.plain rfl) rfl rfl rfl ?_
        refine AQ.nil ?_
        refine AQ.then_n ?_
        refine AQ.cond_d rfl (fun h19 => ?_) (fun h19 => ?_)
        · refine AQ.seq ?_
          refine AQ.region ?_
          refine AQ.build (.plain rfl) rfl zo41 rfl pl41 .nil ?_
          refine AQ.move (.plain rfl) rfl rfl ?_
          refine AQ.storevA (.plain rfl) rfl 3 rfl rfl ag41 rfl rfl ?_
          try simp only [List.set_cons_zero, List.set_cons_succ]
          refine AQ.assign (.plain rfl) rfl rfl ?_
          refine AQ.nil ?_
          refine AQ.then_n ?_
          refine AQ.ret ?_
          refine AQ.then_r ?_
          refine AQ.boxW (m := Head.zero.cells) 3 rfl (by repeat (first | exact ImpL.nil | apply ImpL.same | apply ImpL.sl0)) ?_
          try simp only [List.set_cons_zero, List.set_cons_succ]
          refine AQ.dropN 1 ?_
          refine AQ.dropN 1 ?_
          refine AQ.dropN 1 ?_
          refine AQ.eqH (H' := _ :: H) rfl ?_
          exact AQ.doneC (H' := H) (Imm.le_refl _) Tryz.results71 (.cellA 0 rfl rfl ag41 rfl (.tmp rfl .nil)) 1 rfl ⟨(by rw [show headUnpack b = (Head.zero, s.2.1.end_.e) by unfold headUnpack; rw [hss]; exact if_pos (by assumption)]; rfl), rfl⟩
        · refine AQ.skip ?_
          refine AQ.then_n ?_
          refine AQ.seq ?_
          refine AQ.seq ?_
          refine AQ.region ?_
          refine AQ.freeze 1 rfl (fun J20 hJ20 hp20 => ?_)
          refine AQ.boxAs 1 5 rfl rfl hp20 ?_
          try simp only [List.set_cons_zero, List.set_cons_succ]
          rw [show s.2.2.1 = (Rdr.ss b).2 by rw [hss]]
          refine AQ.loadvA (.plain rfl) rfl 1 rfl rfl ag41 rfl rfl ?_
          refine AQ.callf (.plain rfl) rfl rfl en60 (headCheck (rawHead b) _) ?_
          refine AQ.assign (.plain rfl) rfl rfl ?_
          refine AQ.nil ?_
          refine AQ.then_n ?_
          refine AQ.seq ?_
          refine AQ.region ?_
          refine AQ.move (.plain rfl) rfl rfl ?_
          refine AQ.neq (.plain rfl) rfl rfl rfl ?_
          refine AQ.nil ?_
          refine AQ.then_n ?_
          refine AQ.cond_d rfl (fun h21 => ?_) (fun h21 => ?_)
          · refine AQ.seq ?_
            refine AQ.region ?_
            refine AQ.build (.plain rfl) rfl zo41 rfl pl41 .nil ?_
            refine AQ.move (.plain rfl) rfl rfl ?_
            refine AQ.storevA (.plain rfl) rfl 2 rfl rfl ag41 rfl rfl ?_
            try simp only [List.set_cons_zero, List.set_cons_succ]
            refine AQ.assign (.plain rfl) rfl rfl ?_
            refine AQ.nil ?_
            refine AQ.then_n ?_
            refine AQ.ret ?_
            refine AQ.then_r ?_
            refine AQ.boxW (m := Head.zero.cells) 2 rfl (by repeat (first | exact ImpL.nil | apply ImpL.same | apply ImpL.sl0)) ?_
            try simp only [List.set_cons_zero, List.set_cons_succ]
            refine AQ.dropN 1 ?_
            refine AQ.dropN 1 ?_
            refine AQ.eqH (H' := _ :: H) rfl ?_
            exact AQ.doneC (H' := H) hJ20 Tryz.results71 (.cellA 0 rfl rfl ag41 rfl (.tmp rfl .nil)) 1 rfl ⟨(by rw [show headUnpack b = (Head.zero, headErr (rawHead b)) by unfold headUnpack; rw [hss, if_neg (by assumption)]; exact if_pos (by assumption)]; rfl), rfl⟩
          · refine AQ.skip ?_
            refine AQ.then_n ?_
            refine AQ.seq ?_
            refine AQ.region ?_
            refine AQ.loadvA (.plain rfl) rfl 1 rfl rfl ag41 rfl rfl ?_
            refine AQ.storevA (.plain rfl) rfl 2 rfl rfl ag41 rfl rfl ?_
            try simp only [List.set_cons_zero, List.set_cons_succ]
            refine AQ.assign (.plain rfl) rfl rfl ?_
            refine AQ.nil ?_
            refine AQ.then_n ?_
            refine AQ.ret ?_
            refine AQ.dropN 1 ?_
            refine AQ.dropN 1 ?_
            refine AQ.eqH (H' := _ :: H) rfl ?_
            exact AQ.doneC (H' := H) hJ20 Tryz.results71 (.cellA 0 rfl rfl ag41 rfl (.tmp rfl .nil)) 1 rfl ⟨(by rw [show headUnpack b = (rawHead b, 0) by unfold headUnpack; rw [hss, if_neg (by assumption)]; exact if_neg (by assumption)]; rfl), rfl⟩
      · refine AQ.skip ?_
        refine AQ.then_n ?_
        refine AQ.seq ?_
        refine AQ.region ?_
        refine AQ.build (.plain rfl) rfl zo124 rfl pl124 .nil ?_
        refine AQ.alloc (.plain rfl) zo124 rfl rfl (fun b22 => ?_)
        refine AQ.storevA (.plain rfl) rfl 0 rfl rfl ag124 rfl rfl ?_
        try simp only [List.set_cons_zero, List.set_cons_succ]
        refine AQ.nil ?_
        refine AQ.then_n ?_
        refine AQ.seq ?_
        refine AQ.region ?_
        refine AQ.move (.plain rfl) rfl rfl ?_
        refine AQ.front 1 ?_
        refine AQ.callf (.plain rfl) rfl rfl en142 (readerNum _ _ _ _) ?_
        refine AQ.fieldv (.plain rfl) rfl rfl fo124_0 rfl ?_
        refine AQ.storev1 (.plain rfl) rfl 1 rfl rfl (.val rfl) ag3 rfl ?_
        try simp only [List.set_cons_zero, List.set_cons_succ]
        refine AQ.nil ?_
        refine AQ.then_n ?_
        refine AQ.seq ?_
        refine AQ.region ?_
        refine AQ.move (.plain rfl) rfl rfl ?_
        refine AQ.callf (.plain rfl) rfl rfl en142 (readerNum _ _ _ _) ?_
        refine AQ.fieldv (.plain rfl) rfl rfl fo124_1 rfl ?_
        refine AQ.storev1 (.plain rfl) rfl 1 rfl rfl (.val rfl) ag3 rfl ?_
        try simp only [List.set_cons_zero, List.set_cons_succ]
        refine AQ.nil ?_
        refine AQ.then_n ?_
        refine AQ.seq ?_
        refine AQ.region ?_
        refine AQ.move (.plain rfl) rfl rfl ?_
        refine AQ.move (.plain rfl) rfl rfl ?_
        refine AQ.makeFunc (fs := [_]) (cs := []) (.plain rfl) rfl rfl rfl ?_
        refine AQ.callf (.plain rfl) rfl rfl en143 (headTable _ _ _) ?_
        refine AQ.fieldv (.plain rfl) rfl rfl fo124_2 rfl ?_
        refine AQ.storev1 (.plain rfl) rfl 1 rfl rfl .sl ag38 rfl ?_
        try simp only [List.set_cons_zero, List.set_cons_succ]
        refine AQ.nil ?_
        refine AQ.then_n ?_
        refine AQ.region ?_
        refine AQ.fieldv (.plain rfl) rfl rfl fo41_3 rfl ?_
        refine AQ.loadv1 (.plain rfl) rfl 3 rfl rfl ag39 rfl ?_
        refine AQ.loadvA (.plain rfl) rfl 1 rfl rfl ag124 rfl rfl ?_
        refine AQ.buildSlice (rows := [[_, _, _]]) (.plain rfl) rfl Tryz.underlying39 el124 zo124 rfl rfl rfl (.agg rfl rfl rfl .nil) rfl rfl (by simp) (fun u23 => ?_)
        refine AQ.append (.plain rfl) rfl 3 rfl (.osl rfl 0 rfl) rfl Tryz.underlying39 el124 rfl rfl (by simp only [List.length_cons, List.length_nil, List.length_map, List.length_append, List.length_range]; omega) (fun v24 => ?_)
        try simp only [List.set_cons_zero, List.set_cons_succ]
        refine AQ.fieldv (.plain rfl) rfl rfl fo41_3 rfl ?_
        refine AQ.oslOne 3 rfl (fun ho25 => ?_)
        refine AQ.storev1 (.plain rfl) rfl 4 rfl rfl (.val ho25) ag39 rfl ?_
        try simp only [List.set_cons_zero, List.set_cons_succ]
        refine AQ.nil ?_
        refine AQ.block_n ?_
        refine AQ.then_n ?_
        refine AQ.region ?_
        refine AQ.add (.plain rfl) rfl rfl rfl (i64_id (by omega) (by omega)) ?_
        refine AQ.move (.plain rfl) rfl rfl ?_
        refine AQ.nil ?_
        refine AQ.dropN 1 ?_
        refine AQ.front 1 ?_
        refine AQ.dropN 1 ?_
        refine AQ.front 3 ?_
        refine AQ.front 3 ?_
        refine AQ.front 2 ?_
        refine AQ.front 3 ?_
        refine AQ.eqH (H' := _ :: _ :: _ :: _ :: H) rfl ?_
        exact AQ.again (Imm.le_refl _) (s.1 + 1, ((s.2.1.num 1).1.num 2).1.table.1, s.2.2.1 ++ [⟨(s.2.1.num 1).2, ((s.2.1.num 1).1.num 2).2, ((s.2.1.num 1).1.num 2).1.table.2⟩], _) ⟨by simp only; omega, by simp [hs.2.1], by rw [hs.2.2, show (Rdr.r8 b).2.toNat - s.1 = ((Rdr.r8 b).2.toNat - (s.1 + 1)) + 1 by omega, Rdr.snaps, if_neg (by assumption)]; simp⟩ (by simp only; omega) ⟨rfl, rfl, rfl, rfl, rfl, trivial⟩ (by simp only [snapRows, List.map_append, List.map_cons, List.map_nil]; rfl)
    · refine AQ.exit ?_
      refine AQ.then_e ?_
      refine AQ.then_e ?_
      refine AQ.block_hit ?_
      refine AQ.then_n ?_
      refine AQ.seq ?_
      refine AQ.seq ?_
      refine AQ.region ?_
      have hss : Rdr.ss b = (s.2.1, s.2.2.1) := (by rw [hs.2.2]; first | (rw [show (Rdr.r8 b).2.toNat - s.1 = 0 by omega]; simp [Rdr.snaps]) | (cases hk : (Rdr.r8 b).2.toNat - s.1 <;> simp [Rdr.snaps, *]))
      refine AQ.move (.plain rfl) rfl rfl ?_
      refine AQ.front 1 ?_
      refine AQ.callf (.plain rfl) rfl rfl en146 (readerEnd _ _ _) ?_
      refine AQ.assign (.plain rfl) rfl rfl ?_
      refine AQ.nil ?_
      refine AQ.then_n ?_
      refine AQ.seq ?_
      refine AQ.region ?_
      refine AQ.move (.plain rfl) rfl rfl ?_
      refine AQ.neq (.plain rfl) rfl rfl rfl ?_
      refine AQ.nil ?_
      refine AQ.then_n ?_
      refine AQ.cond_d rfl (fun h26 => ?_) (fun h26 => ?_)
      · refine AQ.seq ?_
        refine AQ.region ?_
        refine AQ.build (.plain rfl) rfl zo41 rfl pl41 .nil ?_
        refine AQ.move (.plain rfl) rfl rfl ?_
        refine AQ.storevA (.plain rfl) rfl 3 rfl rfl ag41 rfl rfl ?_
        try simp only [List.set_cons_zero, List.set_cons_succ]
        refine AQ.assign (.plain rfl) rfl rfl ?_
        refine AQ.nil ?_
        refine AQ.then_n ?_
        refine AQ.ret ?_
        refine AQ.then_r ?_
        refine AQ.boxW (m := Head.zero.cells) 3 rfl (by repeat (first | exact ImpL.nil | apply ImpL.same | apply ImpL.sl0)) ?_
        try simp only [List.set_cons_zero, List.set_cons_succ]
        refine AQ.dropN 1 ?_
        refine AQ.dropN 1 ?_
        refine AQ.dropN 1 ?_
        refine AQ.eqH (H' := _ :: H) rfl ?_
        exact AQ.doneC (H' := H) (Imm.le_refl _) Tryz.results71 (.cellA 0 rfl rfl ag41 rfl (.tmp rfl .nil)) 1 rfl ⟨(by rw [show headUnpack b = (Head.zero, s.2.1.end_.e) by unfold headUnpack; rw [hss]; exact if_pos (by assumption)]; rfl), rfl⟩
      · refine AQ.skip ?_
        refine AQ.then_n ?_
        refine AQ.seq ?_
        refine AQ.seq ?_
        refine AQ.region ?_
        refine AQ.freeze 1 rfl (fun J27 hJ27 hp27 => ?_)
        refine AQ.boxAs 1 5 rfl rfl hp27 ?_
        try simp only [List.set_cons_zero, List.set_cons_succ]
        rw [show s.2.2.1 = (Rdr.ss b).2 by rw [hss]]
        refine AQ.loadvA (.plain rfl) rfl 1 rfl rfl ag41 rfl rfl ?_
        refine AQ.callf (.plain rfl) rfl rfl en60 (headCheck (rawHead b) _) ?_
        refine AQ.assign (.plain rfl) rfl rfl ?_
        refine AQ.nil ?_
        refine AQ.then_n ?_
        refine AQ.seq ?_
        refine AQ.region ?_
        refine AQ.move (.plain rfl) rfl rfl ?_
        refine AQ.neq (.plain rfl) rfl rfl rfl ?_
        refine AQ.nil ?_
        refine AQ.then_n ?_
        refine AQ.cond_d rfl (fun h28 => ?_) (fun h28 => ?_)
        · refine AQ.seq ?_
          refine AQ.region ?_
          refine AQ.build (.plain rfl) rfl zo41 rfl pl41 .nil ?_
          refine AQ.move (.plain rfl) rfl rfl ?_
          refine AQ.storevA (.plain rfl) rfl 2 rfl rfl ag41 rfl rfl ?_
          try simp only [List.set_cons_zero, List.set_cons_succ]
          refine AQ.assign (.plain rfl) rfl rfl ?_
          refine AQ.nil ?_
          refine AQ.then_n ?_
          refine AQ.ret ?_
          refine AQ.then_r ?_
          refine AQ.boxW (m := Head.zero.cells) 2 rfl (by repeat (first | exact ImpL.nil | apply ImpL.same | apply ImpL.sl0)) ?_
          try simp only [List.set_cons_zero, List.set_cons_succ]
          refine AQ.dropN 1 ?_
          refine AQ.dropN 1 ?_
          refine AQ.eqH (H' := _ :: H) rfl ?_
          exact AQ.doneC (H' := H) hJ27 Tryz.results71 (.cellA 0 rfl rfl ag41 rfl (.tmp rfl .nil)) 1 rfl ⟨(by rw [show headUnpack b = (Head.zero, headErr (rawHead b)) by unfold headUnpack; rw [hss, if_neg (by assumption)]; exact if_pos (by assumption)]; rfl), rfl⟩
        · refine AQ.skip ?_
          refine AQ.then_n ?_
          refine AQ.seq ?_
          refine AQ.region ?_
          refine AQ.loadvA (.plain rfl) rfl 1 rfl rfl ag41 rfl rfl ?_
          refine AQ.storevA (.plain rfl) rfl 2 rfl rfl ag41 rfl rfl ?_
          try simp only [List.set_cons_zero, List.set_cons_succ]
          refine AQ.assign (.plain rfl) rfl rfl ?_
          refine AQ.nil ?_
          refine AQ.then_n ?_
          refine AQ.ret ?_
          refine AQ.dropN 1 ?_
          refine AQ.dropN 1 ?_
          refine AQ.eqH (H' := _ :: H) rfl ?_
          exact AQ.doneC (H' := H) hJ27 Tryz.results71 (.cellA 0 rfl rfl ag41 rfl (.tmp rfl .nil)) 1 rfl ⟨(by rw [show headUnpack b = (rawHead b, 0) by unfold headUnpack; rw [hss, if_neg (by assumption)]; exact if_neg (by assumption)]; rfl), rfl⟩
end Go.Fx
