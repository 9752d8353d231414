/- Rules for walks, pure facts of the program, contracts of its functions: ST SU SV. -/
import Derived.Test.YtkgboabmjahndaaGreatDoorMH
import Derived.Test.YtkgboabmjahndaaGreatDoorMD
import Derived.Test.YtkgboabmjahndaaGreatDoorMB
set_option linter.unusedVariables false
set_option linter.unusedSimpArgs false
set_option maxRecDepth 100000
namespace Go.Fx
open Go Go.Proofs

theorem entryNamed (seq owner kind off len snap what : Int) (d : AV) (H : List HA)  : AC Tryz.prog 129 [.agg [I seq, I owner, I kind, I off, I len, I snap, d], I what] (H) (fun r' H' => r' = (B (Named kind what)) ∧ H' = H) := by
  refine AC.enter Tryz.func129 rfl Tryz.ntmps129 rfl (fun I0 => ?_)
  refine AQ.seq ?_
  refine AQ.region ?_
  refine AQ.boxA (.plain rfl) rfl rfl (fun b1 => ?_)
  refine AQ.assign (.plain rfl) rfl rfl ?_
  refine AQ.nil ?_
  refine AQ.then_n ?_
  refine AQ.seq ?_
  refine AQ.region ?_
  refine AQ.fieldv (.plain rfl) rfl rfl fo43_2 rfl ?_
  refine AQ.loadv1 (.plain rfl) rfl 0 rfl rfl ag3 rfl ?_
  refine AQ.geq (.plain rfl) rfl rfl rfl ?_
  refine AQ.move (.plain rfl) rfl rfl ?_
  refine AQ.split (t := 8) rfl (fun h2 => ?_) (fun h2 => ?_)
  · refine AQ.fieldv (.on rfl rfl rfl) rfl rfl fo43_2 rfl ?_
    refine AQ.loadv1 (.on rfl rfl rfl) rfl 0 rfl rfl ag3 rfl ?_
    refine AQ.lss (.on rfl rfl rfl) rfl rfl rfl ?_
    refine AQ.pick_t (.plain rfl) rfl rfl rfl ?_
    refine AQ.move (.plain rfl) rfl rfl ?_
    refine AQ.split (t := 13) rfl (fun h3 => ?_) (fun h3 => ?_)
    · refine AQ.fieldv (.on rfl rfl rfl) rfl rfl fo43_2 rfl ?_
      refine AQ.loadv1 (.on rfl rfl rfl) rfl 0 rfl rfl ag3 rfl ?_
      refine AQ.indexArr (.on rfl rfl rfl) rfl rfl rfl Tryz.underlying262 ag3 (by omega) (by omega) (names_drop (by omega) (by omega)) ?_
      refine AQ.load1 (.on rfl rfl rfl) rfl rfl ag3 rfl ?_
      refine AQ.move (.on rfl rfl rfl) rfl rfl ?_
      refine AQ.bits .and (by simp) (.on rfl rfl rfl) rfl rfl rfl (by rfl) ?_
      refine AQ.neq (.on rfl rfl rfl) rfl rfl rfl ?_
      refine AQ.pick_t (.plain rfl) rfl rfl rfl ?_
      refine AQ.assign (.plain rfl) rfl rfl ?_
      refine AQ.nil ?_
      refine AQ.then_n ?_
      refine AQ.ret ?_
      refine AQ.dropN 1 ?_
      refine AQ.eqH (H' := H) rfl ?_
      exact AQ.done1 (Imm.le_refl _) Tryz.results129 rfl ⟨(by unfold Named; first | exact B_f (by omega) | exact B_c ⟨fun h => ⟨by omega, by omega, h⟩, fun h => h.2.2⟩), rfl⟩
    · refine AQ.off rfl rfl rfl rfl ?_
      refine AQ.off rfl rfl rfl rfl ?_
      refine AQ.off rfl rfl rfl rfl ?_
      refine AQ.off rfl rfl rfl rfl ?_
      refine AQ.off rfl rfl rfl rfl ?_
      refine AQ.off rfl rfl rfl rfl ?_
      refine AQ.off rfl rfl rfl rfl ?_
      refine AQ.pick_f (.plain rfl) rfl rfl rfl ?_
      refine AQ.assign (.plain rfl) rfl rfl ?_
      refine AQ.nil ?_
      refine AQ.then_n ?_
      refine AQ.ret ?_
      refine AQ.dropN 1 ?_
      refine AQ.eqH (H' := H) rfl ?_
      exact AQ.done1 (Imm.le_refl _) Tryz.results129 rfl ⟨(by unfold Named; first | exact B_f (by omega) | exact B_c ⟨fun h => ⟨by omega, by omega, h⟩, fun h => h.2.2⟩), rfl⟩
  · refine AQ.off rfl rfl rfl rfl ?_
    refine AQ.off rfl rfl rfl rfl ?_
    refine AQ.off rfl rfl rfl rfl ?_
    refine AQ.pick_f (.plain rfl) rfl rfl rfl ?_
    refine AQ.move (.plain rfl) rfl rfl ?_
    refine AQ.off rfl rfl rfl rfl ?_
    refine AQ.off rfl rfl rfl rfl ?_
    refine AQ.off rfl rfl rfl rfl ?_
    refine AQ.off rfl rfl rfl rfl ?_
    refine AQ.off rfl rfl rfl rfl ?_
    refine AQ.off rfl rfl rfl rfl ?_
    refine AQ.off rfl rfl rfl rfl ?_
    refine AQ.pick_f (.plain rfl) rfl rfl rfl ?_
    refine AQ.assign (.plain rfl) rfl rfl ?_
    refine AQ.nil ?_
    refine AQ.then_n ?_
    refine AQ.ret ?_
    refine AQ.dropN 1 ?_
    refine AQ.eqH (H' := H) rfl ?_
    exact AQ.done1 (Imm.le_refl _) Tryz.results129 rfl ⟨(by unfold Named; first | exact B_f (by omega) | exact B_c ⟨fun h => ⟨by omega, by omega, h⟩, fun h => h.2.2⟩), rfl⟩
theorem entryCheck (e : Entry) (H : List HA)  : AC Tryz.prog 61 [.agg e.cells] (H) (fun r' H' => r' = (I (entryErr e)) ∧ H' = H) := by
  refine AC.enter Tryz.func61 rfl Tryz.ntmps61 rfl (fun I0 => ?_)
  refine AQ.seq ?_
  refine AQ.region ?_
  refine AQ.boxA (.plain rfl) rfl rfl (fun b1 => ?_)
  refine AQ.assign (.plain rfl) rfl rfl ?_
  refine AQ.nil ?_
  refine AQ.then_n ?_
  refine AQ.seq ?_
  refine AQ.region ?_
  refine AQ.fieldv (.plain rfl) rfl rfl fo43_0 rfl ?_
  refine AQ.loadv1 (.plain rfl) rfl 0 rfl rfl ag3 rfl ?_
  refine AQ.callf (.plain rfl) rfl rfl en124 (entryWithin _ _ _ _) ?_
  refine AQ.move (.plain rfl) rfl rfl ?_
  refine AQ.split (t := 7) rfl (fun h2 => ?_) (fun h2 => ?_)
  · refine AQ.fieldv (.on rfl rfl rfl) rfl rfl fo43_1 rfl ?_
    refine AQ.loadv1 (.on rfl rfl rfl) rfl 0 rfl rfl ag3 rfl ?_
    refine AQ.callf (.on rfl rfl rfl) rfl rfl en124 (entryWithin _ _ _ _) ?_
    refine AQ.pick_t (.plain rfl) rfl rfl rfl ?_
    refine AQ.assign (.plain rfl) rfl rfl ?_
    refine AQ.nil ?_
    refine AQ.then_n ?_
    refine AQ.seq ?_
    refine AQ.seq ?_
    refine AQ.region ?_
    refine AQ.fieldv (.plain rfl) rfl rfl fo43_2 rfl ?_
    refine AQ.loadv1 (.plain rfl) rfl 0 rfl rfl ag3 rfl ?_
    refine AQ.nil ?_
    refine AQ.then_n ?_
    refine AQ.block ?_
    refine AQ.seq ?_
    refine AQ.block ?_
    refine AQ.seq ?_
    refine AQ.block ?_
    refine AQ.block ?_
    refine AQ.seq ?_
    refine AQ.block ?_
    refine AQ.seq ?_
    refine AQ.block ?_
    refine AQ.seq ?_
    refine AQ.block ?_
    refine AQ.seq ?_
    refine AQ.block ?_
    refine AQ.seq ?_
    refine AQ.seq ?_
    refine AQ.seq ?_
    refine AQ.region ?_
    refine AQ.eql (.plain rfl) rfl rfl rfl ?_
    refine AQ.assign (.plain rfl) rfl rfl ?_
    refine AQ.nil ?_
    refine AQ.then_n ?_
    refine AQ.cond_d rfl (fun h3 => ?_) (fun h3 => ?_)
    · refine AQ.exit ?_
      refine AQ.then_e ?_
      refine AQ.then_e ?_
      refine AQ.block_hit ?_
      refine AQ.then_n ?_
      refine AQ.seq ?_
      refine AQ.region ?_
      refine AQ.move (.plain rfl) rfl rfl ?_
      refine AQ.move (.plain rfl) rfl rfl ?_
      refine AQ.split (t := 27) rfl (fun h4 => ?_) (fun h4 => ?_)
      · refine AQ.fieldv (.on rfl rfl rfl) rfl rfl fo43_6 rfl ?_
        refine AQ.loadv1 (.on rfl rfl rfl) rfl 0 rfl rfl ag28 rfl ?_
        refine AQ.lenz (.on rfl rfl rfl) (.sl rfl) rfl Tryz.underlying28 (by first | (simp only [List.length_map]; rfl) | rfl) ?_
        refine AQ.callf (.on rfl rfl rfl) rfl rfl en124 (entryWithin _ _ _ _) ?_
        refine AQ.pick_t (.plain rfl) rfl rfl rfl ?_
        refine AQ.move (.plain rfl) rfl rfl ?_
        refine AQ.split (t := 33) rfl (fun h5 => ?_) (fun h5 => ?_)
        · refine AQ.fieldv (.on rfl rfl rfl) rfl rfl fo43_3 rfl ?_
          refine AQ.loadv1 (.on rfl rfl rfl) rfl 0 rfl rfl ag3 rfl ?_
          refine AQ.callf (.on rfl rfl rfl) rfl rfl en124 (entryWithin _ _ _ _) ?_
          refine AQ.pick_t (.plain rfl) rfl rfl rfl ?_
          refine AQ.assign (.plain rfl) rfl rfl ?_
          refine AQ.nil ?_
          refine AQ.then_n ?_
          refine AQ.exit ?_
          refine AQ.block_miss rfl ?_
          refine AQ.then_e ?_
          refine AQ.block_miss rfl ?_
          refine AQ.then_e ?_
          refine AQ.block_miss rfl ?_
          refine AQ.then_e ?_
          refine AQ.block_miss rfl ?_
          refine AQ.block_miss rfl ?_
          refine AQ.then_e ?_
          refine AQ.block_miss rfl ?_
          refine AQ.then_e ?_
          refine AQ.block_hit ?_
          refine AQ.then_n ?_
          refine AQ.seq ?_
          refine AQ.seq ?_
          refine AQ.region ?_
          refine AQ.move (.plain rfl) rfl rfl ?_
          refine AQ.not_d (.plain rfl) rfl rfl ?_
          refine AQ.nil ?_
          refine AQ.then_n ?_
          refine AQ.cond_d rfl (fun h6 => ?_) (fun h6 => ?_)
          · refine AQ.seq ?_
            refine AQ.region ?_
            refine AQ.assign (.plain rfl) rfl rfl ?_
            refine AQ.nil ?_
            refine AQ.then_n ?_
            refine AQ.ret ?_
            refine AQ.then_r ?_
            refine AQ.dropN 1 ?_
            refine AQ.eqH (H' := H) rfl ?_
            exact AQ.done1 (Imm.le_refl _) Tryz.results61 rfl ⟨(I_c (by unfold entryErr; first | exact if_t (by unfold Entry.May; omega) | exact if_f (by unfold Entry.May; omega))), rfl⟩
          · refine AQ.skip ?_
            refine AQ.then_n ?_
            refine AQ.seq ?_
            refine AQ.region ?_
            refine AQ.assign (.plain rfl) rfl rfl ?_
            refine AQ.nil ?_
            refine AQ.then_n ?_
            refine AQ.ret ?_
            refine AQ.dropN 1 ?_
            refine AQ.eqH (H' := H) rfl ?_
            exact AQ.done1 (Imm.le_refl _) Tryz.results61 rfl ⟨(I_c (by unfold entryErr; first | exact if_t (by unfold Entry.May; omega) | exact if_f (by unfold Entry.May; omega))), rfl⟩
        · refine AQ.off rfl rfl rfl rfl ?_
          refine AQ.off rfl rfl rfl rfl ?_
          refine AQ.off rfl rfl rfl rfl ?_
          refine AQ.pick_f (.plain rfl) rfl rfl rfl ?_
          refine AQ.assign (.plain rfl) rfl rfl ?_
          refine AQ.nil ?_
          refine AQ.then_n ?_
          refine AQ.exit ?_
          refine AQ.block_miss rfl ?_
          refine AQ.then_e ?_
          refine AQ.block_miss rfl ?_
          refine AQ.then_e ?_
          refine AQ.block_miss rfl ?_
          refine AQ.then_e ?_
          refine AQ.block_miss rfl ?_
          refine AQ.block_miss rfl ?_
          refine AQ.then_e ?_
          refine AQ.block_miss rfl ?_
          refine AQ.then_e ?_
          refine AQ.block_hit ?_
          refine AQ.then_n ?_
          refine AQ.seq ?_
          refine AQ.seq ?_
          refine AQ.region ?_
          refine AQ.move (.plain rfl) rfl rfl ?_
          refine AQ.not (.plain rfl) rfl rfl ?_
          refine AQ.nil ?_
          refine AQ.then_n ?_
          refine AQ.cond_t rfl ?_
          refine AQ.seq ?_
          refine AQ.region ?_
          refine AQ.assign (.plain rfl) rfl rfl ?_
          refine AQ.nil ?_
          refine AQ.then_n ?_
          refine AQ.ret ?_
          refine AQ.then_r ?_
          refine AQ.dropN 1 ?_
          refine AQ.eqH (H' := H) rfl ?_
          exact AQ.done1 (Imm.le_refl _) Tryz.results61 rfl ⟨(I_c (by unfold entryErr; first | exact if_t (by unfold Entry.May; omega) | exact if_f (by unfold Entry.May; omega))), rfl⟩
      · refine AQ.off rfl rfl rfl rfl ?_
        refine AQ.off rfl rfl rfl rfl ?_
        refine AQ.off rfl rfl rfl rfl ?_
        refine AQ.off rfl rfl rfl rfl ?_
        refine AQ.pick_f (.plain rfl) rfl rfl rfl ?_
        refine AQ.move (.plain rfl) rfl rfl ?_
        refine AQ.off rfl rfl rfl rfl ?_
        refine AQ.off rfl rfl rfl rfl ?_
        refine AQ.off rfl rfl rfl rfl ?_
        refine AQ.pick_f (.plain rfl) rfl rfl rfl ?_
        refine AQ.assign (.plain rfl) rfl rfl ?_
        refine AQ.nil ?_
        refine AQ.then_n ?_
        refine AQ.exit ?_
        refine AQ.block_miss rfl ?_
        refine AQ.then_e ?_
        refine AQ.block_miss rfl ?_
        refine AQ.then_e ?_
        refine AQ.block_miss rfl ?_
        refine AQ.then_e ?_
        refine AQ.block_miss rfl ?_
        refine AQ.block_miss rfl ?_
        refine AQ.then_e ?_
        refine AQ.block_miss rfl ?_
        refine AQ.then_e ?_
        refine AQ.block_hit ?_
        refine AQ.then_n ?_
        refine AQ.seq ?_
        refine AQ.seq ?_
        refine AQ.region ?_
        refine AQ.move (.plain rfl) rfl rfl ?_
        refine AQ.not (.plain rfl) rfl rfl ?_
        refine AQ.nil ?_
        refine AQ.then_n ?_
        refine AQ.cond_t rfl ?_
        refine AQ.seq ?_
        refine AQ.region ?_
        refine AQ.assign (.plain rfl) rfl rfl ?_
        refine AQ.nil ?_
        refine AQ.then_n ?_
        refine AQ.ret ?_
        refine AQ.then_r ?_
        refine AQ.dropN 1 ?_
        refine AQ.eqH (H' := H) rfl ?_
        exact AQ.done1 (Imm.le_refl _) Tryz.results61 rfl ⟨(I_c (by unfold entryErr; first | exact if_t (by unfold Entry.May; omega) | exact if_f (by unfold Entry.May; omega))), rfl⟩
    · refine AQ.skip ?_
      refine AQ.then_n ?_
      refine AQ.seq ?_
      refine AQ.seq ?_
      refine AQ.region ?_
      refine AQ.eql (.plain rfl) rfl rfl rfl ?_
      refine AQ.assign (.plain rfl) rfl rfl ?_
      refine AQ.nil ?_
      refine AQ.then_n ?_
      refine AQ.cond_d rfl (fun h7 => ?_) (fun h7 => ?_)
      · refine AQ.exit ?_
        refine AQ.then_e ?_
        refine AQ.then_e ?_
        refine AQ.block_miss rfl ?_
        refine AQ.then_e ?_
        refine AQ.block_hit ?_
        refine AQ.then_n ?_
        refine AQ.seq ?_
        refine AQ.region ?_
        refine AQ.move (.plain rfl) rfl rfl ?_
        refine AQ.move (.plain rfl) rfl rfl ?_
        refine AQ.split (t := 39) rfl (fun h8 => ?_) (fun h8 => ?_)
        · refine AQ.fieldv (.on rfl rfl rfl) rfl rfl fo43_4 rfl ?_
          refine AQ.loadv1 (.on rfl rfl rfl) rfl 0 rfl rfl ag3 rfl ?_
          refine AQ.callf (.on rfl rfl rfl) rfl rfl en124 (entryWithin _ _ _ _) ?_
          refine AQ.pick_t (.plain rfl) rfl rfl rfl ?_
          refine AQ.move (.plain rfl) rfl rfl ?_
          refine AQ.split (t := 44) rfl (fun h9 => ?_) (fun h9 => ?_)
          · refine AQ.fieldv (.on rfl rfl rfl) rfl rfl fo43_3 rfl ?_
            refine AQ.loadv1 (.on rfl rfl rfl) rfl 0 rfl rfl ag3 rfl ?_
            refine AQ.callf (.on rfl rfl rfl) rfl rfl en124 (entryWithin _ _ _ _) ?_
            refine AQ.pick_t (.plain rfl) rfl rfl rfl ?_
            refine AQ.assign (.plain rfl) rfl rfl ?_
            refine AQ.nil ?_
            refine AQ.then_n ?_
            refine AQ.exit ?_
            refine AQ.block_miss rfl ?_
            refine AQ.then_e ?_
            refine AQ.block_miss rfl ?_
            refine AQ.then_e ?_
            refine AQ.block_miss rfl ?_
            refine AQ.block_miss rfl ?_
            refine AQ.then_e ?_
            refine AQ.block_miss rfl ?_
            refine AQ.then_e ?_
            refine AQ.block_hit ?_
            refine AQ.then_n ?_
            refine AQ.seq ?_
            refine AQ.seq ?_
            refine AQ.region ?_
            refine AQ.move (.plain rfl) rfl rfl ?_
            refine AQ.not_d (.plain rfl) rfl rfl ?_
            refine AQ.nil ?_
            refine AQ.then_n ?_
            refine AQ.cond_d rfl (fun h10 => ?_) (fun h10 => ?_)
            · refine AQ.seq ?_
              refine AQ.region ?_
              refine AQ.assign (.plain rfl) rfl rfl ?_
              refine AQ.nil ?_
              refine AQ.then_n ?_
              refine AQ.ret ?_
              refine AQ.then_r ?_
              refine AQ.dropN 1 ?_
              refine AQ.eqH (H' := H) rfl ?_
              exact AQ.done1 (Imm.le_refl _) Tryz.results61 rfl ⟨(I_c (by unfold entryErr; first | exact if_t (by unfold Entry.May; omega) | exact if_f (by unfold Entry.May; omega))), rfl⟩
            · refine AQ.skip ?_
              refine AQ.then_n ?_
              refine AQ.seq ?_
              refine AQ.region ?_
              refine AQ.assign (.plain rfl) rfl rfl ?_
              refine AQ.nil ?_
              refine AQ.then_n ?_
              refine AQ.ret ?_
              refine AQ.dropN 1 ?_
              refine AQ.eqH (H' := H) rfl ?_
              exact AQ.done1 (Imm.le_refl _) Tryz.results61 rfl ⟨(I_c (by unfold entryErr; first | exact if_t (by unfold Entry.May; omega) | exact if_f (by unfold Entry.May; omega))), rfl⟩
          · refine AQ.off rfl rfl rfl rfl ?_
            refine AQ.off rfl rfl rfl rfl ?_
            refine AQ.off rfl rfl rfl rfl ?_
            refine AQ.pick_f (.plain rfl) rfl rfl rfl ?_
            refine AQ.assign (.plain rfl) rfl rfl ?_
            refine AQ.nil ?_
            refine AQ.then_n ?_
            refine AQ.exit ?_
            refine AQ.block_miss rfl ?_
            refine AQ.then_e ?_
            refine AQ.block_miss rfl ?_
            refine AQ.then_e ?_
            refine AQ.block_miss rfl ?_
            refine AQ.block_miss rfl ?_
            refine AQ.then_e ?_
            refine AQ.block_miss rfl ?_
            refine AQ.then_e ?_
            refine AQ.block_hit ?_
            refine AQ.then_n ?_
            refine AQ.seq ?_
            refine AQ.seq ?_
            refine AQ.region ?_
            refine AQ.move (.plain rfl) rfl rfl ?_
            refine AQ.not (.plain rfl) rfl rfl ?_
            refine AQ.nil ?_
            refine AQ.then_n ?_
            refine AQ.cond_t rfl ?_
            refine AQ.seq ?_
            refine AQ.region ?_
            refine AQ.assign (.plain rfl) rfl rfl ?_
            refine AQ.nil ?_
            refine AQ.then_n ?_
            refine AQ.ret ?_
            refine AQ.then_r ?_
            refine AQ.dropN 1 ?_
            refine AQ.eqH (H' := H) rfl ?_
            exact AQ.done1 (Imm.le_refl _) Tryz.results61 rfl ⟨(I_c (by unfold entryErr; first | exact if_t (by unfold Entry.May; omega) | exact if_f (by unfold Entry.May; omega))), rfl⟩
        · refine AQ.off rfl rfl rfl rfl ?_
          refine AQ.off rfl rfl rfl rfl ?_
          refine AQ.off rfl rfl rfl rfl ?_
          refine AQ.pick_f (.plain rfl) rfl rfl rfl ?_
          refine AQ.move (.plain rfl) rfl rfl ?_
          refine AQ.off rfl rfl rfl rfl ?_
          refine AQ.off rfl rfl rfl rfl ?_
          refine AQ.off rfl rfl rfl rfl ?_
          refine AQ.pick_f (.plain rfl) rfl rfl rfl ?_
          refine AQ.assign (.plain rfl) rfl rfl ?_
          refine AQ.nil ?_
          refine AQ.then_n ?_
          refine AQ.exit ?_
          refine AQ.block_miss rfl ?_
          refine AQ.then_e ?_
          refine AQ.block_miss rfl ?_
          refine AQ.then_e ?_
          refine AQ.block_miss rfl ?_
          refine AQ.block_miss rfl ?_
          refine AQ.then_e ?_
          refine AQ.block_miss rfl ?_
          refine AQ.then_e ?_
          refine AQ.block_hit ?_
          refine AQ.then_n ?_
          refine AQ.seq ?_
          refine AQ.seq ?_
          refine AQ.region ?_
          refine AQ.move (.plain rfl) rfl rfl ?_
          refine AQ.not (.plain rfl) rfl rfl ?_
          refine AQ.nil ?_
          refine AQ.then_n ?_
          refine AQ.cond_t rfl ?_
          refine AQ.seq ?_
          refine AQ.region ?_
          refine AQ.assign (.plain rfl) rfl rfl ?_
          refine AQ.nil ?_
          refine AQ.then_n ?_
          refine AQ.ret ?_
          refine AQ.then_r ?_
          refine AQ.dropN 1 ?_
          refine AQ.eqH (H' := H) rfl ?_
          exact AQ.done1 (Imm.le_refl _) Tryz.results61 rfl ⟨(I_c (by unfold entryErr; first | exact if_t (by unfold Entry.May; omega) | exact if_f (by unfold Entry.May; omega))), rfl⟩
      · refine AQ.skip ?_
        refine AQ.then_n ?_
        refine AQ.seq ?_
        refine AQ.seq ?_
        refine AQ.region ?_
        refine AQ.eql (.plain rfl) rfl rfl rfl ?_
        refine AQ.assign (.plain rfl) rfl rfl ?_
        refine AQ.nil ?_
        refine AQ.then_n ?_
        refine AQ.cond_d rfl (fun h11 => ?_) (fun h11 => ?_)
        · refine AQ.exit ?_
          refine AQ.then_e ?_
          refine AQ.then_e ?_
          refine AQ.block_miss rfl ?_
          refine AQ.then_e ?_
          refine AQ.block_miss rfl ?_
          refine AQ.then_e ?_
          refine AQ.block_hit ?_
          refine AQ.then_n ?_
          refine AQ.seq ?_
          refine AQ.region ?_
          refine AQ.move (.plain rfl) rfl rfl ?_
          refine AQ.move (.plain rfl) rfl rfl ?_
          refine AQ.split (t := 50) rfl (fun h12 => ?_) (fun h12 => ?_)
          · refine AQ.fieldv (.on rfl rfl rfl) rfl rfl fo43_4 rfl ?_
            refine AQ.loadv1 (.on rfl rfl rfl) rfl 0 rfl rfl ag3 rfl ?_
            refine AQ.callf (.on rfl rfl rfl) rfl rfl en124 (entryWithin _ _ _ _) ?_
            refine AQ.pick_t (.plain rfl) rfl rfl rfl ?_
            refine AQ.assign (.plain rfl) rfl rfl ?_
            refine AQ.nil ?_
            refine AQ.then_n ?_
            refine AQ.exit ?_
            refine AQ.block_miss rfl ?_
            refine AQ.then_e ?_
            refine AQ.block_miss rfl ?_
            refine AQ.block_miss rfl ?_
            refine AQ.then_e ?_
            refine AQ.block_miss rfl ?_
            refine AQ.then_e ?_
            refine AQ.block_hit ?_
            refine AQ.then_n ?_
            refine AQ.seq ?_
            refine AQ.seq ?_
            refine AQ.region ?_
            refine AQ.move (.plain rfl) rfl rfl ?_
            refine AQ.not_d (.plain rfl) rfl rfl ?_
            refine AQ.nil ?_
            refine AQ.then_n ?_
            refine AQ.cond_d rfl (fun h13 => ?_) (fun h13 => ?_)
            · refine AQ.seq ?_
              refine AQ.region ?_
              refine AQ.assign (.plain rfl) rfl rfl ?_
              refine AQ.nil ?_
              refine AQ.then_n ?_
              refine AQ.ret ?_
              refine AQ.then_r ?_
              refine AQ.dropN 1 ?_
              refine AQ.eqH (H' := H) rfl ?_
              exact AQ.done1 (Imm.le_refl _) Tryz.results61 rfl ⟨(I_c (by unfold entryErr; first | exact if_t (by unfold Entry.May; omega) | exact if_f (by unfold Entry.May; omega))), rfl⟩
            · refine AQ.skip ?_
              refine AQ.then_n ?_
              refine AQ.seq ?_
              refine AQ.region ?_
              refine AQ.assign (.plain rfl) rfl rfl ?_
              refine AQ.nil ?_
              refine AQ.then_n ?_
              refine AQ.ret ?_
              refine AQ.dropN 1 ?_
              refine AQ.eqH (H' := H) rfl ?_
              exact AQ.done1 (Imm.le_refl _) Tryz.results61 rfl ⟨(I_c (by unfold entryErr; first | exact if_t (by unfold Entry.May; omega) | exact if_f (by unfold Entry.May; omega))), rfl⟩
          · refine AQ.off rfl rfl rfl rfl ?_
            refine AQ.off rfl rfl rfl rfl ?_
            refine AQ.off rfl rfl rfl rfl ?_
            refine AQ.pick_f (.plain rfl) rfl rfl rfl ?_
            refine AQ.assign (.plain rfl) rfl rfl ?_
            refine AQ.nil ?_
            refine AQ.then_n ?_
            refine AQ.exit ?_
            refine AQ.block_miss rfl ?_
            refine AQ.then_e ?_
            refine AQ.block_miss rfl ?_
            refine AQ.block_miss rfl ?_
            refine AQ.then_e ?_
            refine AQ.block_miss rfl ?_
            refine AQ.then_e ?_
            refine AQ.block_hit ?_
            refine AQ.then_n ?_
            refine AQ.seq ?_
            refine AQ.seq ?_
            refine AQ.region ?_
            refine AQ.move (.plain rfl) rfl rfl ?_
            refine AQ.not (.plain rfl) rfl rfl ?_
            refine AQ.nil ?_
            refine AQ.then_n ?_
            refine AQ.cond_t rfl ?_
            refine AQ.seq ?_
            refine AQ.region ?_
            refine AQ.assign (.plain rfl) rfl rfl ?_
            refine AQ.nil ?_
            refine AQ.then_n ?_
            refine AQ.ret ?_
            refine AQ.then_r ?_
            refine AQ.dropN 1 ?_
            refine AQ.eqH (H' := H) rfl ?_
            exact AQ.done1 (Imm.le_refl _) Tryz.results61 rfl ⟨(I_c (by unfold entryErr; first | exact if_t (by unfold Entry.May; omega) | exact if_f (by unfold Entry.May; omega))), rfl⟩
        · refine AQ.skip ?_
          refine AQ.then_n ?_
          refine AQ.seq ?_
          refine AQ.seq ?_
          refine AQ.region ?_
          refine AQ.eql (.plain rfl) rfl rfl rfl ?_
          refine AQ.assign (.plain rfl) rfl rfl ?_
          refine AQ.nil ?_
          refine AQ.then_n ?_
          refine AQ.cond_d rfl (fun h14 => ?_) (fun h14 => ?_)
          · refine AQ.exit ?_
            refine AQ.then_e ?_
            refine AQ.then_e ?_
            refine AQ.block_miss rfl ?_
            refine AQ.then_e ?_
            refine AQ.block_miss rfl ?_
            refine AQ.then_e ?_
            refine AQ.block_miss rfl ?_
            refine AQ.then_e ?_
            refine AQ.block_hit ?_
            refine AQ.then_n ?_
            refine AQ.exit ?_
            refine AQ.block_miss rfl ?_
            refine AQ.block_miss rfl ?_
            refine AQ.then_e ?_
            refine AQ.block_miss rfl ?_
            refine AQ.then_e ?_
            refine AQ.block_hit ?_
            refine AQ.then_n ?_
            refine AQ.seq ?_
            refine AQ.seq ?_
            refine AQ.region ?_
            refine AQ.move (.plain rfl) rfl rfl ?_
            refine AQ.not_d (.plain rfl) rfl rfl ?_
            refine AQ.nil ?_
            refine AQ.then_n ?_
            refine AQ.cond_d rfl (fun h15 => ?_) (fun h15 => ?_)
            · refine AQ.seq ?_
              refine AQ.region ?_
              refine AQ.assign (.plain rfl) rfl rfl ?_
              refine AQ.nil ?_
              refine AQ.then_n ?_
              refine AQ.ret ?_
              refine AQ.then_r ?_
              refine AQ.dropN 1 ?_
              refine AQ.eqH (H' := H) rfl ?_
              exact AQ.done1 (Imm.le_refl _) Tryz.results61 rfl ⟨(I_c (by unfold entryErr; first | exact if_t (by unfold Entry.May; omega) | exact if_f (by unfold Entry.May; omega))), rfl⟩
            · refine AQ.skip ?_
              refine AQ.then_n ?_
              refine AQ.seq ?_
              refine AQ.region ?_
              refine AQ.assign (.plain rfl) rfl rfl ?_
              refine AQ.nil ?_
              refine AQ.then_n ?_
              refine AQ.ret ?_
              refine AQ.dropN 1 ?_
              refine AQ.eqH (H' := H) rfl ?_
              exact AQ.done1 (Imm.le_refl _) Tryz.results61 rfl ⟨(I_c (by unfold entryErr; first | exact if_t (by unfold Entry.May; omega) | exact if_f (by unfold Entry.May; omega))), rfl⟩
          · refine AQ.skip ?_
            refine AQ.then_n ?_
            refine AQ.seq ?_
            refine AQ.seq ?_
            refine AQ.region ?_
            refine AQ.eql (.plain rfl) rfl rfl rfl ?_
            refine AQ.assign (.plain rfl) rfl rfl ?_
            refine AQ.nil ?_
            refine AQ.then_n ?_
            refine AQ.cond_d rfl (fun h16 => ?_) (fun h16 => ?_)
            · refine AQ.exit ?_
              refine AQ.then_e ?_
              refine AQ.then_e ?_
              refine AQ.block_miss rfl ?_
              refine AQ.then_e ?_
              refine AQ.block_miss rfl ?_
              refine AQ.then_e ?_
              refine AQ.block_miss rfl ?_
              refine AQ.then_e ?_
              refine AQ.block_miss rfl ?_
              refine AQ.then_e ?_
              refine AQ.block_hit ?_
              refine AQ.block_n ?_
              refine AQ.then_n ?_
              refine AQ.seq ?_
              refine AQ.region ?_
              refine AQ.move (.plain rfl) rfl rfl ?_
              refine AQ.move (.plain rfl) rfl rfl ?_
              refine AQ.split (t := 56) rfl (fun h17 => ?_) (fun h17 => ?_)
              · refine AQ.fieldv (.on rfl rfl rfl) rfl rfl fo43_5 rfl ?_
                refine AQ.loadv1 (.on rfl rfl rfl) rfl 0 rfl rfl ag3 rfl ?_
                refine AQ.callf (.on rfl rfl rfl) rfl rfl en124 (entryWithin _ _ _ _) ?_
                refine AQ.pick_t (.plain rfl) rfl rfl rfl ?_
                refine AQ.assign (.plain rfl) rfl rfl ?_
                refine AQ.nil ?_
                refine AQ.then_n ?_
                refine AQ.exit ?_
                refine AQ.block_miss rfl ?_
                refine AQ.then_e ?_
                refine AQ.block_hit ?_
                refine AQ.then_n ?_
                refine AQ.seq ?_
                refine AQ.seq ?_
                refine AQ.region ?_
                refine AQ.move (.plain rfl) rfl rfl ?_
                refine AQ.not_d (.plain rfl) rfl rfl ?_
                refine AQ.nil ?_
                refine AQ.then_n ?_
                refine AQ.cond_d rfl (fun h18 => ?_) (fun h18 => ?_)
                · refine AQ.seq ?_
                  refine AQ.region ?_
                  refine AQ.assign (.plain rfl) rfl rfl ?_
                  refine AQ.nil ?_
                  refine AQ.then_n ?_
                  refine AQ.ret ?_
                  refine AQ.then_r ?_
                  refine AQ.dropN 1 ?_
                  refine AQ.eqH (H' := H) rfl ?_
                  exact AQ.done1 (Imm.le_refl _) Tryz.results61 rfl ⟨(I_c (by unfold entryErr; first | exact if_t (by unfold Entry.May; omega) | exact if_f (by unfold Entry.May; omega))), rfl⟩
                · refine AQ.skip ?_
                  refine AQ.then_n ?_
                  refine AQ.seq ?_
                  refine AQ.region ?_
                  refine AQ.assign (.plain rfl) rfl rfl ?_
                  refine AQ.nil ?_
                  refine AQ.then_n ?_
                  refine AQ.ret ?_
                  refine AQ.dropN 1 ?_
                  refine AQ.eqH (H' := H) rfl ?_
                  exact AQ.done1 (Imm.le_refl _) Tryz.results61 rfl ⟨(I_c (by unfold entryErr; first | exact if_t (by unfold Entry.May; omega) | exact if_f (by unfold Entry.May; omega))), rfl⟩
              · refine AQ.off rfl rfl rfl rfl ?_
                refine AQ.off rfl rfl rfl rfl ?_
                refine AQ.off rfl rfl rfl rfl ?_
                refine AQ.pick_f (.plain rfl) rfl rfl rfl ?_
                refine AQ.assign (.plain rfl) rfl rfl ?_
                refine AQ.nil ?_
                refine AQ.then_n ?_
                refine AQ.exit ?_
                refine AQ.block_miss rfl ?_
                refine AQ.then_e ?_
                refine AQ.block_hit ?_
                refine AQ.then_n ?_
                refine AQ.seq ?_
                refine AQ.seq ?_
                refine AQ.region ?_
                refine AQ.move (.plain rfl) rfl rfl ?_
                refine AQ.not (.plain rfl) rfl rfl ?_
                refine AQ.nil ?_
                refine AQ.then_n ?_
                refine AQ.cond_t rfl ?_
                refine AQ.seq ?_
                refine AQ.region ?_
                refine AQ.assign (.plain rfl) rfl rfl ?_
                refine AQ.nil ?_
                refine AQ.then_n ?_
                refine AQ.ret ?_
                refine AQ.then_r ?_
                refine AQ.dropN 1 ?_
                refine AQ.eqH (H' := H) rfl ?_
                exact AQ.done1 (Imm.le_refl _) Tryz.results61 rfl ⟨(I_c (by unfold entryErr; first | exact if_t (by unfold Entry.May; omega) | exact if_f (by unfold Entry.May; omega))), rfl⟩
            · refine AQ.skip ?_
              refine AQ.then_n ?_
              refine AQ.seq ?_
              refine AQ.region ?_
              refine AQ.eql (.plain rfl) rfl rfl rfl ?_
              refine AQ.assign (.plain rfl) rfl rfl ?_
              refine AQ.nil ?_
              refine AQ.then_n ?_
              refine AQ.cond_d rfl (fun h19 => ?_) (fun h19 => ?_)
              · refine AQ.exit ?_
                refine AQ.then_e ?_
                refine AQ.block_miss rfl ?_
                refine AQ.then_e ?_
                refine AQ.block_miss rfl ?_
                refine AQ.then_e ?_
                refine AQ.block_miss rfl ?_
                refine AQ.then_e ?_
                refine AQ.block_miss rfl ?_
                refine AQ.then_e ?_
                refine AQ.block_miss rfl ?_
                refine AQ.block_hit ?_
                refine AQ.then_n ?_
                refine AQ.seq ?_
                refine AQ.region ?_
                refine AQ.move (.plain rfl) rfl rfl ?_
                refine AQ.move (.plain rfl) rfl rfl ?_
                refine AQ.split (t := 56) rfl (fun h20 => ?_) (fun h20 => ?_)
                · refine AQ.fieldv (.on rfl rfl rfl) rfl rfl fo43_5 rfl ?_
                  refine AQ.loadv1 (.on rfl rfl rfl) rfl 0 rfl rfl ag3 rfl ?_
                  refine AQ.callf (.on rfl rfl rfl) rfl rfl en124 (entryWithin _ _ _ _) ?_
                  refine AQ.pick_t (.plain rfl) rfl rfl rfl ?_
                  refine AQ.assign (.plain rfl) rfl rfl ?_
                  refine AQ.nil ?_
                  refine AQ.then_n ?_
                  refine AQ.exit ?_
                  refine AQ.block_miss rfl ?_
                  refine AQ.then_e ?_
                  refine AQ.block_hit ?_
                  refine AQ.then_n ?_
                  refine AQ.seq ?_
                  refine AQ.seq ?_
                  refine AQ.region ?_
                  refine AQ.move (.plain rfl) rfl rfl ?_
                  refine AQ.not_d (.plain rfl) rfl rfl ?_
                  refine AQ.nil ?_
                  refine AQ.then_n ?_
                  refine AQ.cond_d rfl (fun h21 => ?_) (fun h21 => ?_)
                  · refine AQ.seq ?_
                    refine AQ.region ?_
                    refine AQ.assign (.plain rfl) rfl rfl ?_
                    refine AQ.nil ?_
                    refine AQ.then_n ?_
                    refine AQ.ret ?_
                    refine AQ.then_r ?_
                    refine AQ.dropN 1 ?_
                    refine AQ.eqH (H' := H) rfl ?_
                    exact AQ.done1 (Imm.le_refl _) Tryz.results61 rfl ⟨(I_c (by unfold entryErr; first | exact if_t (by unfold Entry.May; omega) | exact if_f (by unfold Entry.May; omega))), rfl⟩
                  · refine AQ.skip ?_
                    refine AQ.then_n ?_
                    refine AQ.seq ?_
                    refine AQ.region ?_
                    refine AQ.assign (.plain rfl) rfl rfl ?_
                    refine AQ.nil ?_
                    refine AQ.then_n ?_
                    refine AQ.ret ?_
                    refine AQ.dropN 1 ?_
                    refine AQ.eqH (H' := H) rfl ?_
                    exact AQ.done1 (Imm.le_refl _) Tryz.results61 rfl ⟨(I_c (by unfold entryErr; first | exact if_t (by unfold Entry.May; omega) | exact if_f (by unfold Entry.May; omega))), rfl⟩
                · refine AQ.off rfl rfl rfl rfl ?_
                  refine AQ.off rfl rfl rfl rfl ?_
                  refine AQ.off rfl rfl rfl rfl ?_
                  refine AQ.pick_f (.plain rfl) rfl rfl rfl ?_
                  refine AQ.assign (.plain rfl) rfl rfl ?_
                  refine AQ.nil ?_
                  refine AQ.then_n ?_
                  refine AQ.exit ?_
                  refine AQ.block_miss rfl ?_
                  refine AQ.then_e ?_
                  refine AQ.block_hit ?_
                  refine AQ.then_n ?_
                  refine AQ.seq ?_
                  refine AQ.seq ?_
                  refine AQ.region ?_
                  refine AQ.move (.plain rfl) rfl rfl ?_
                  refine AQ.not (.plain rfl) rfl rfl ?_
                  refine AQ.nil ?_
                  refine AQ.then_n ?_
                  refine AQ.cond_t rfl ?_
                  refine AQ.seq ?_
                  refine AQ.region ?_
                  refine AQ.assign (.plain rfl) rfl rfl ?_
                  refine AQ.nil ?_
                  refine AQ.then_n ?_
                  refine AQ.ret ?_
                  refine AQ.then_r ?_
                  refine AQ.dropN 1 ?_
                  refine AQ.eqH (H' := H) rfl ?_
                  exact AQ.done1 (Imm.le_refl _) Tryz.results61 rfl ⟨(I_c (by unfold entryErr; first | exact if_t (by unfold Entry.May; omega) | exact if_f (by unfold Entry.May; omega))), rfl⟩
              · refine AQ.skip ?_
                refine AQ.then_n ?_
                refine AQ.exit ?_
                refine AQ.block_miss rfl ?_
                refine AQ.then_e ?_
                refine AQ.block_miss rfl ?_
                refine AQ.then_e ?_
                refine AQ.block_miss rfl ?_
                refine AQ.then_e ?_
                refine AQ.block_miss rfl ?_
                refine AQ.then_e ?_
                refine AQ.block_miss rfl ?_
                refine AQ.block_miss rfl ?_
                refine AQ.then_e ?_
                refine AQ.block_hit ?_
                refine AQ.then_n ?_
                refine AQ.seq ?_
                refine AQ.region ?_
                refine AQ.assign (.plain rfl) rfl rfl ?_
                refine AQ.nil ?_
                refine AQ.then_n ?_
                refine AQ.exit ?_
                refine AQ.block_hit ?_
                refine AQ.then_n ?_
                refine AQ.seq ?_
                refine AQ.seq ?_
                refine AQ.region ?_
                refine AQ.move (.plain rfl) rfl rfl ?_
                refine AQ.not (.plain rfl) rfl rfl ?_
                refine AQ.nil ?_
                refine AQ.then_n ?_
                refine AQ.cond_t rfl ?_
                refine AQ.seq ?_
                refine AQ.region ?_
                refine AQ.assign (.plain rfl) rfl rfl ?_
                refine AQ.nil ?_
                refine AQ.then_n ?_
                refine AQ.ret ?_
                refine AQ.then_r ?_
                refine AQ.dropN 1 ?_
                refine AQ.eqH (H' := H) rfl ?_
                exact AQ.done1 (Imm.le_refl _) Tryz.results61 rfl ⟨(I_c (by unfold entryErr; first | exact if_t (by unfold Entry.May; omega) | exact if_f (by unfold Entry.May; omega))), rfl⟩
  · refine AQ.off rfl rfl rfl rfl ?_
    refine AQ.off rfl rfl rfl rfl ?_
    refine AQ.off rfl rfl rfl rfl ?_
    refine AQ.pick_f (.plain rfl) rfl rfl rfl ?_
    refine AQ.assign (.plain rfl) rfl rfl ?_
    refine AQ.nil ?_
    refine AQ.then_n ?_
    refine AQ.seq ?_
    refine AQ.seq ?_
    refine AQ.region ?_
    refine AQ.fieldv (.plain rfl) rfl rfl fo43_2 rfl ?_
    refine AQ.loadv1 (.plain rfl) rfl 0 rfl rfl ag3 rfl ?_
    refine AQ.nil ?_
    refine AQ.then_n ?_
    refine AQ.block ?_
    refine AQ.seq ?_
    refine AQ.block ?_
    refine AQ.seq ?_
    refine AQ.block ?_
    refine AQ.block ?_
    refine AQ.seq ?_
    refine AQ.block ?_
    refine AQ.seq ?_
    refine AQ.block ?_
    refine AQ.seq ?_
    refine AQ.block ?_
    refine AQ.seq ?_
    refine AQ.block ?_
    refine AQ.seq ?_
    refine AQ.seq ?_
    refine AQ.seq ?_
    refine AQ.region ?_
    refine AQ.eql (.plain rfl) rfl rfl rfl ?_
    refine AQ.assign (.plain rfl) rfl rfl ?_
    refine AQ.nil ?_
    refine AQ.then_n ?_
    refine AQ.cond_d rfl (fun h22 => ?_) (fun h22 => ?_)
    · refine AQ.exit ?_
      refine AQ.then_e ?_
      refine AQ.then_e ?_
      refine AQ.block_hit ?_
      refine AQ.then_n ?_
      refine AQ.seq ?_
      refine AQ.region ?_
      refine AQ.move (.plain rfl) rfl rfl ?_
      refine AQ.move (.plain rfl) rfl rfl ?_
      refine AQ.off rfl rfl rfl rfl ?_
      refine AQ.off rfl rfl rfl rfl ?_
      refine AQ.off rfl rfl rfl rfl ?_
      refine AQ.off rfl rfl rfl rfl ?_
      refine AQ.pick_f (.plain rfl) rfl rfl rfl ?_
      refine AQ.move (.plain rfl) rfl rfl ?_
      refine AQ.off rfl rfl rfl rfl ?_
      refine AQ.off rfl rfl rfl rfl ?_
      refine AQ.off rfl rfl rfl rfl ?_
      refine AQ.pick_f (.plain rfl) rfl rfl rfl ?_
      refine AQ.assign (.plain rfl) rfl rfl ?_
      refine AQ.nil ?_
      refine AQ.then_n ?_
      refine AQ.exit ?_
      refine AQ.block_miss rfl ?_
      refine AQ.then_e ?_
      refine AQ.block_miss rfl ?_
      refine AQ.then_e ?_
      refine AQ.block_miss rfl ?_
      refine AQ.then_e ?_
      refine AQ.block_miss rfl ?_
      refine AQ.block_miss rfl ?_
      refine AQ.then_e ?_
      refine AQ.block_miss rfl ?_
      refine AQ.then_e ?_
      refine AQ.block_hit ?_
      refine AQ.then_n ?_
      refine AQ.seq ?_
      refine AQ.seq ?_
      refine AQ.region ?_
      refine AQ.move (.plain rfl) rfl rfl ?_
      refine AQ.not (.plain rfl) rfl rfl ?_
      refine AQ.nil ?_
      refine AQ.then_n ?_
      refine AQ.cond_t rfl ?_
      refine AQ.seq ?_
      refine AQ.region ?_
      refine AQ.assign (.plain rfl) rfl rfl ?_
      refine AQ.nil ?_
      refine AQ.then_n ?_
      refine AQ.ret ?_
      refine AQ.then_r ?_
      refine AQ.dropN 1 ?_
      refine AQ.eqH (H' := H) rfl ?_
      exact AQ.done1 (Imm.le_refl _) Tryz.results61 rfl ⟨(I_c (by unfold entryErr; first | exact if_t (by unfold Entry.May; omega) | exact if_f (by unfold Entry.May; omega))), rfl⟩
    · refine AQ.skip ?_
      refine AQ.then_n ?_
      refine AQ.seq ?_
      refine AQ.seq ?_
      refine AQ.region ?_
      refine AQ.eql (.plain rfl) rfl rfl rfl ?_
      refine AQ.assign (.plain rfl) rfl rfl ?_
      refine AQ.nil ?_
      refine AQ.then_n ?_
      refine AQ.cond_d rfl (fun h23 => ?_) (fun h23 => ?_)
      · refine AQ.exit ?_
        refine AQ.then_e ?_
        refine AQ.then_e ?_
        refine AQ.block_miss rfl ?_
        refine AQ.then_e ?_
        refine AQ.block_hit ?_
        refine AQ.then_n ?_
        refine AQ.seq ?_
        refine AQ.region ?_
        refine AQ.move (.plain rfl) rfl rfl ?_
        refine AQ.move (.plain rfl) rfl rfl ?_
        refine AQ.off rfl rfl rfl rfl ?_
        refine AQ.off rfl rfl rfl rfl ?_
        refine AQ.off rfl rfl rfl rfl ?_
        refine AQ.pick_f (.plain rfl) rfl rfl rfl ?_
        refine AQ.move (.plain rfl) rfl rfl ?_
        refine AQ.off rfl rfl rfl rfl ?_
        refine AQ.off rfl rfl rfl rfl ?_
        refine AQ.off rfl rfl rfl rfl ?_
        refine AQ.pick_f (.plain rfl) rfl rfl rfl ?_
        refine AQ.assign (.plain rfl) rfl rfl ?_
        refine AQ.nil ?_
        refine AQ.then_n ?_
        refine AQ.exit ?_
        refine AQ.block_miss rfl ?_
        refine AQ.then_e ?_
        refine AQ.block_miss rfl ?_
        refine AQ.then_e ?_
        refine AQ.block_miss rfl ?_
        refine AQ.block_miss rfl ?_
        refine AQ.then_e ?_
        refine AQ.block_miss rfl ?_
        refine AQ.then_e ?_
        refine AQ.block_hit ?_
        refine AQ.then_n ?_
        refine AQ.seq ?_
        refine AQ.seq ?_
        refine AQ.region ?_
        refine AQ.move (.plain rfl) rfl rfl ?_
        refine AQ.not (.plain rfl) rfl rfl ?_
        refine AQ.nil ?_
        refine AQ.then_n ?_
        refine AQ.cond_t rfl ?_
        refine AQ.seq ?_
        refine AQ.region ?_
        refine AQ.assign (.plain rfl) rfl rfl ?_
        refine AQ.nil ?_
        refine AQ.then_n ?_
        refine AQ.ret ?_
        refine AQ.then_r ?_
        refine AQ.dropN 1 ?_
        refine AQ.eqH (H' := H) rfl ?_
        exact AQ.done1 (Imm.le_refl _) Tryz.results61 rfl ⟨(I_c (by unfold entryErr; first | exact if_t (by unfold Entry.May; omega) | exact if_f (by unfold Entry.May; omega))), rfl⟩
      · refine AQ.skip ?_
        refine AQ.then_n ?_
        refine AQ.seq ?_
        refine AQ.seq ?_
        refine AQ.region ?_
        refine AQ.eql (.plain rfl) rfl rfl rfl ?_
        refine AQ.assign (.plain rfl) rfl rfl ?_
        refine AQ.nil ?_
        refine AQ.then_n ?_
        refine AQ.cond_d rfl (fun h24 => ?_) (fun h24 => ?_)
        · refine AQ.exit ?_
          refine AQ.then_e ?_
          refine AQ.then_e ?_
          refine AQ.block_miss rfl ?_
          refine AQ.then_e ?_
          refine AQ.block_miss rfl ?_
          refine AQ.then_e ?_
          refine AQ.block_hit ?_
          refine AQ.then_n ?_
          refine AQ.seq ?_
          refine AQ.region ?_
          refine AQ.move (.plain rfl) rfl rfl ?_
          refine AQ.move (.plain rfl) rfl rfl ?_
          refine AQ.off rfl rfl rfl rfl ?_
          refine AQ.off rfl rfl rfl rfl ?_
          refine AQ.off rfl rfl rfl rfl ?_
          refine AQ.pick_f (.plain rfl) rfl rfl rfl ?_
          refine AQ.assign (.plain rfl) rfl rfl ?_
          refine AQ.nil ?_
          refine AQ.then_n ?_
          refine AQ.exit ?_
          refine AQ.block_miss rfl ?_
          refine AQ.then_e ?_
          refine AQ.block_miss rfl ?_
          refine AQ.block_miss rfl ?_
          refine AQ.then_e ?_
          refine AQ.block_miss rfl ?_
          refine AQ.then_e ?_
          refine AQ.block_hit ?_
          refine AQ.then_n ?_
          refine AQ.seq ?_
          refine AQ.seq ?_
          refine AQ.region ?_
          refine AQ.move (.plain rfl) rfl rfl ?_
          refine AQ.not (.plain rfl) rfl rfl ?_
          refine AQ.nil ?_
          refine AQ.then_n ?_
          refine AQ.cond_t rfl ?_
          refine AQ.seq ?_
          refine AQ.region ?_
          refine AQ.assign (.plain rfl) rfl rfl ?_
          refine AQ.nil ?_
          refine AQ.then_n ?_
          refine AQ.ret ?_
          refine AQ.then_r ?_
          refine AQ.dropN 1 ?_
          refine AQ.eqH (H' := H) rfl ?_
          exact AQ.done1 (Imm.le_refl _) Tryz.results61 rfl ⟨(I_c (by unfold entryErr; first | exact if_t (by unfold Entry.May; omega) | exact if_f (by unfold Entry.May; omega))), rfl⟩
        · refine AQ.skip ?_
          refine AQ.then_n ?_
          refine AQ.seq ?_
          refine AQ.seq ?_
          refine AQ.region ?_
          refine AQ.eql (.plain rfl) rfl rfl rfl ?_
          refine AQ.assign (.plain rfl) rfl rfl ?_
          refine AQ.nil ?_
          refine AQ.then_n ?_
          refine AQ.cond_d rfl (fun h25 => ?_) (fun h25 => ?_)
          · refine AQ.exit ?_
            refine AQ.then_e ?_
            refine AQ.then_e ?_
            refine AQ.block_miss rfl ?_
            refine AQ.then_e ?_
            refine AQ.block_miss rfl ?_
            refine AQ.then_e ?_
            refine AQ.block_miss rfl ?_
            refine AQ.then_e ?_
            refine AQ.block_hit ?_
            refine AQ.then_n ?_
            refine AQ.exit ?_
            refine AQ.block_miss rfl ?_
            refine AQ.block_miss rfl ?_
            refine AQ.then_e ?_
            refine AQ.block_miss rfl ?_
            refine AQ.then_e ?_
            refine AQ.block_hit ?_
            refine AQ.then_n ?_
            refine AQ.seq ?_
            refine AQ.seq ?_
            refine AQ.region ?_
            refine AQ.move (.plain rfl) rfl rfl ?_
            refine AQ.not (.plain rfl) rfl rfl ?_
            refine AQ.nil ?_
            refine AQ.then_n ?_
            refine AQ.cond_t rfl ?_
            refine AQ.seq ?_
            refine AQ.region ?_
            refine AQ.assign (.plain rfl) rfl rfl ?_
            refine AQ.nil ?_
            refine AQ.then_n ?_
            refine AQ.ret ?_
            refine AQ.then_r ?_
            refine AQ.dropN 1 ?_
            refine AQ.eqH (H' := H) rfl ?_
            exact AQ.done1 (Imm.le_refl _) Tryz.results61 rfl ⟨(I_c (by unfold entryErr; first | exact if_t (by unfold Entry.May; omega) | exact if_f (by unfold Entry.May; omega))), rfl⟩
          · refine AQ.skip ?_
            refine AQ.then_n ?_
            refine AQ.seq ?_
            refine AQ.seq ?_
            refine AQ.region ?_
            refine AQ.eql (.plain rfl) rfl rfl rfl ?_
            refine AQ.assign (.plain rfl) rfl rfl ?_
            refine AQ.nil ?_
            refine AQ.then_n ?_
            refine AQ.cond_d rfl (fun h26 => ?_) (fun h26 => ?_)
            · refine AQ.exit ?_
              refine AQ.then_e ?_
              refine AQ.then_e ?_
              refine AQ.block_miss rfl ?_
              refine AQ.then_e ?_
              refine AQ.block_miss rfl ?_
              refine AQ.then_e ?_
              refine AQ.block_miss rfl ?_
              refine AQ.then_e ?_
              refine AQ.block_miss rfl ?_
              refine AQ.then_e ?_
              refine AQ.block_hit ?_
              refine AQ.block_n ?_
              refine AQ.then_n ?_
              refine AQ.seq ?_
              refine AQ.region ?_
              refine AQ.move (.plain rfl) rfl rfl ?_
              refine AQ.move (.plain rfl) rfl rfl ?_
              refine AQ.off rfl rfl rfl rfl ?_
              refine AQ.off rfl rfl rfl rfl ?_
              refine AQ.off rfl rfl rfl rfl ?_
              refine AQ.pick_f (.plain rfl) rfl rfl rfl ?_
              refine AQ.assign (.plain rfl) rfl rfl ?_
              refine AQ.nil ?_
              refine AQ.then_n ?_
              refine AQ.exit ?_
              refine AQ.block_miss rfl ?_
              refine AQ.then_e ?_
              refine AQ.block_hit ?_
              refine AQ.then_n ?_
              refine AQ.seq ?_
              refine AQ.seq ?_
              refine AQ.region ?_
              refine AQ.move (.plain rfl) rfl rfl ?_
              refine AQ.not (.plain rfl) rfl rfl ?_
              refine AQ.nil ?_
              refine AQ.then_n ?_
              refine AQ.cond_t rfl ?_
              refine AQ.seq ?_
              refine AQ.region ?_
              refine AQ.assign (.plain rfl) rfl rfl ?_
              refine AQ.nil ?_
              refine AQ.then_n ?_
              refine AQ.ret ?_
              refine AQ.then_r ?_
              refine AQ.dropN 1 ?_
              refine AQ.eqH (H' := H) rfl ?_
              exact AQ.done1 (Imm.le_refl _) Tryz.results61 rfl ⟨(I_c (by unfold entryErr; first | exact if_t (by unfold Entry.May; omega) | exact if_f (by unfold Entry.May; omega))), rfl⟩
            · refine AQ.skip ?_
              refine AQ.then_n ?_
              refine AQ.seq ?_
              refine AQ.region ?_
              refine AQ.eql (.plain rfl) rfl rfl rfl ?_
              refine AQ.assign (.plain rfl) rfl rfl ?_
              refine AQ.nil ?_
              refine AQ.then_n ?_
              refine AQ.cond_d rfl (fun h27 => ?_) (fun h27 => ?_)
              · refine AQ.exit ?_
                refine AQ.then_e ?_
                refine AQ.block_miss rfl ?_
                refine AQ.then_e ?_
                refine AQ.block_miss rfl ?_
                refine AQ.then_e ?_
                refine AQ.block_miss rfl ?_
                refine AQ.then_e ?_
                refine AQ.block_miss rfl ?_
                refine AQ.then_e ?_
                refine AQ.block_miss rfl ?_
                refine AQ.block_hit ?_
                refine AQ.then_n ?_
                refine AQ.seq ?_
                refine AQ.region ?_
                refine AQ.move (.plain rfl) rfl rfl ?_
                refine AQ.move (.plain rfl) rfl rfl ?_
                refine AQ.off rfl rfl rfl rfl ?_
                refine AQ.off rfl rfl rfl rfl ?_
                refine AQ.off rfl rfl rfl rfl ?_
                refine AQ.pick_f (.plain rfl) rfl rfl rfl ?_
                refine AQ.assign (.plain rfl) rfl rfl ?_
                refine AQ.nil ?_
                refine AQ.then_n ?_
                refine AQ.exit ?_
                refine AQ.block_miss rfl ?_
                refine AQ.then_e ?_
                refine AQ.block_hit ?_
                refine AQ.then_n ?_
                refine AQ.seq ?_
                refine AQ.seq ?_
                refine AQ.region ?_
                refine AQ.move (.plain rfl) rfl rfl ?_
                refine AQ.not (.plain rfl) rfl rfl ?_
                refine AQ.nil ?_
                refine AQ.then_n ?_
                refine AQ.cond_t rfl ?_
                refine AQ.seq ?_
                refine AQ.region ?_
                refine AQ.assign (.plain rfl) rfl rfl ?_
                refine AQ.nil ?_
                refine AQ.then_n ?_
                refine AQ.ret ?_
                refine AQ.then_r ?_
                refine AQ.dropN 1 ?_
                refine AQ.eqH (H' := H) rfl ?_
                exact AQ.done1 (Imm.le_refl _) Tryz.results61 rfl ⟨(I_c (by unfold entryErr; first | exact if_t (by unfold Entry.May; omega) | exact if_f (by unfold Entry.May; omega))), rfl⟩
              · refine AQ.skip ?_
                refine AQ.then_n ?_
                refine AQ.exit ?_
                refine AQ.block_miss rfl ?_
                refine AQ.then_e ?_
                refine AQ.block_miss rfl ?_
                refine AQ.then_e ?_
                refine AQ.block_miss rfl ?_
                refine AQ.then_e ?_
                refine AQ.block_miss rfl ?_
                refine AQ.then_e ?_
                refine AQ.block_miss rfl ?_
                refine AQ.block_miss rfl ?_
                refine AQ.then_e ?_
                refine AQ.block_hit ?_
                refine AQ.then_n ?_
                refine AQ.seq ?_
                refine AQ.region ?_
                refine AQ.assign (.plain rfl) rfl rfl ?_
                refine AQ.nil ?_
                refine AQ.then_n ?_
                refine AQ.exit ?_
                refine AQ.block_hit ?_
                refine AQ.then_n ?_
                refine AQ.seq ?_
                refine AQ.seq ?_
                refine AQ.region ?_
                refine AQ.move (.plain rfl) rfl rfl ?_
                refine AQ.not (.plain rfl) rfl rfl ?_
                refine AQ.nil ?_
                refine AQ.then_n ?_
                refine AQ.cond_t rfl ?_
                refine AQ.seq ?_
                refine AQ.region ?_
                refine AQ.assign (.plain rfl) rfl rfl ?_
                refine AQ.nil ?_
                refine AQ.then_n ?_
                refine AQ.ret ?_
                refine AQ.then_r ?_
                refine AQ.dropN 1 ?_
                refine AQ.eqH (H' := H) rfl ?_
                exact AQ.done1 (Imm.le_refl _) Tryz.results61 rfl ⟨(I_c (by unfold entryErr; first | exact if_t (by unfold Entry.May; omega) | exact if_f (by unfold Entry.May; omega))), rfl⟩
theorem entryClean (e : Entry) (H : List HA) (y0 : e.data.length ≤ 1099511627776) : AC Tryz.prog 63 [.agg e.cells] (H) (fun r' H' => r' = (.agg e.clean.cells) ∧ H' = H) := by
  refine AC.enter Tryz.func63 rfl Tryz.ntmps63 rfl (fun I0 => ?_)
  refine AQ.seq ?_
  refine AQ.region ?_
  refine AQ.boxA (.plain rfl) rfl rfl (fun b1 => ?_)
  refine AQ.alloc (.plain rfl) zo43 rfl rfl (fun b2 => ?_)
  refine AQ.nil ?_
  refine AQ.then_n ?_
  refine AQ.seq ?_
  refine AQ.seq ?_
  refine AQ.region ?_
  refine AQ.loadvA (.plain rfl) rfl 1 rfl rfl ag43 rfl rfl ?_
  refine AQ.callf (.plain rfl) rfl rfl en129 (entryNamed _ _ _ _ _ _ _ _ _) ?_
  refine AQ.not_d (.plain rfl) rfl rfl ?_
  refine AQ.nil ?_
  refine AQ.then_n ?_
  refine AQ.cond_d rfl (fun h3 => ?_) (fun h3 => ?_)
  · refine AQ.region ?_
    refine AQ.fieldv (.plain rfl) rfl rfl fo43_3 rfl ?_
    refine AQ.storev1 (.plain rfl) rfl 1 rfl rfl (.val rfl) ag3 rfl ?_
    try simp only [List.set_cons_zero, List.set_cons_succ]
    refine AQ.nil ?_
    refine AQ.then_n ?_
    refine AQ.seq ?_
    refine AQ.seq ?_
    refine AQ.region ?_
    refine AQ.loadvA (.plain rfl) rfl 1 rfl rfl ag43 rfl rfl ?_
    refine AQ.callf (.plain rfl) rfl rfl en129 (entryNamed _ _ _ _ _ _ _ _ _) ?_
    refine AQ.not_d (.plain rfl) rfl rfl ?_
    refine AQ.nil ?_
    refine AQ.then_n ?_
    refine AQ.cond_d rfl (fun h4 => ?_) (fun h4 => ?_)
    · refine AQ.region ?_
      refine AQ.fieldv (.plain rfl) rfl rfl fo43_4 rfl ?_
      refine AQ.storev1 (.plain rfl) rfl 1 rfl rfl (.val rfl) ag3 rfl ?_
      try simp only [List.set_cons_zero, List.set_cons_succ]
      refine AQ.nil ?_
      refine AQ.then_n ?_
      refine AQ.seq ?_
      refine AQ.seq ?_
      refine AQ.region ?_
      refine AQ.loadvA (.plain rfl) rfl 1 rfl rfl ag43 rfl rfl ?_
      refine AQ.callf (.plain rfl) rfl rfl en129 (entryNamed _ _ _ _ _ _ _ _ _) ?_
      refine AQ.not_d (.plain rfl) rfl rfl ?_
      refine AQ.nil ?_
      refine AQ.then_n ?_
      refine AQ.cond_d rfl (fun h5 => ?_) (fun h5 => ?_)
      · refine AQ.region ?_
        refine AQ.fieldv (.plain rfl) rfl rfl fo43_5 rfl ?_
        refine AQ.storev1 (.plain rfl) rfl 1 rfl rfl (.val rfl) ag3 rfl ?_
        try simp only [List.set_cons_zero, List.set_cons_succ]
        refine AQ.nil ?_
        refine AQ.then_n ?_
        refine AQ.seq ?_
        refine AQ.seq ?_
        refine AQ.region ?_
        refine AQ.loadvA (.plain rfl) rfl 1 rfl rfl ag43 rfl rfl ?_
        refine AQ.callf (.plain rfl) rfl rfl en129 (entryNamed _ _ _ _ _ _ _ _ _) ?_
        refine AQ.not_d (.plain rfl) rfl rfl ?_
        refine AQ.nil ?_
        refine AQ.then_n ?_
        refine AQ.cond_d rfl (fun h6 => ?_) (fun h6 => ?_)
        · refine AQ.region ?_
          refine AQ.fieldv (.plain rfl) rfl rfl fo43_6 rfl ?_
          refine AQ.storev1 (.plain rfl) rfl 1 rfl rfl (.val rfl) ag28 rfl ?_
          try simp only [List.set_cons_zero, List.set_cons_succ]
          refine AQ.nil ?_
          refine AQ.then_n ?_
          refine AQ.seq ?_
          refine AQ.region ?_
          refine AQ.fieldv (.plain rfl) rfl rfl fo43_6 rfl ?_
          refine AQ.loadv1 (.plain rfl) rfl 1 rfl rfl ag28 rfl ?_
          refine AQ.callo (.plain rfl) rfl rfl en130 (AC.weak (cloneBytes [] _ (by simp)) (by repeat (first | exact ImpL.nil | apply ImpL.same | apply ImpL.sl0))) (fun v7 => ?_)
          refine AQ.fieldv (.plain rfl) rfl rfl fo43_6 rfl ?_
          refine AQ.oslOne 0 rfl (fun ho8 => ?_)
          refine AQ.storev1 (.plain rfl) rfl 2 rfl rfl (.val ho8) ag28 rfl ?_
          try simp only [List.set_cons_zero, List.set_cons_succ]
          refine AQ.nil ?_
          refine AQ.then_n ?_
          refine AQ.seq ?_
          refine AQ.region ?_
          refine AQ.freeze 0 rfl (fun J9 hJ9 hp9 => ?_)
          refine AQ.boxAs 1 6 rfl rfl hp9 ?_
          try simp only [List.set_cons_zero, List.set_cons_succ]
          refine AQ.loadvA (.plain rfl) rfl 1 rfl rfl ag43 rfl rfl ?_
          refine AQ.storevA (.plain rfl) rfl 0 rfl rfl ag43 rfl rfl ?_
          try simp only [List.set_cons_zero, List.set_cons_succ]
          refine AQ.nil ?_
          refine AQ.then_n ?_
          refine AQ.ret ?_
          refine AQ.front 1 ?_
          refine AQ.dropN 1 ?_
          refine AQ.eqH (H' := _ :: H) rfl ?_
          exact AQ.doneC (H' := H) hJ9 Tryz.results63 (.cellA 0 rfl rfl ag43 rfl .nil) 1 rfl ⟨(by unfold Entry.clean; (first | rw [if_pos (Decidable.not_not.1 ‹¬ ¬ Named e.kind 1›)] | rw [if_neg ‹¬ Named e.kind 1›]); (first | rw [if_pos (Decidable.not_not.1 ‹¬ ¬ Named e.kind 2›)] | rw [if_neg ‹¬ Named e.kind 2›]); (first | rw [if_pos (Decidable.not_not.1 ‹¬ ¬ Named e.kind 4›)] | rw [if_neg ‹¬ Named e.kind 4›]); (first | rw [if_pos (Decidable.not_not.1 ‹¬ ¬ Named e.kind 8›)] | rw [if_neg ‹¬ Named e.kind 8›]); rfl), rfl⟩
        · refine AQ.skip ?_
          refine AQ.then_n ?_
          refine AQ.seq ?_
          refine AQ.region ?_
          refine AQ.fieldv (.plain rfl) rfl rfl fo43_6 rfl ?_
          refine AQ.loadv1 (.plain rfl) rfl 1 rfl rfl ag28 rfl ?_
          refine AQ.callo (.plain rfl) rfl rfl en130 (cloneBytes e.data _ (by omega)) (fun v10 => ?_)
          refine AQ.fieldv (.plain rfl) rfl rfl fo43_6 rfl ?_
          refine AQ.oslOne 0 rfl (fun ho11 => ?_)
          refine AQ.storev1 (.plain rfl) rfl 2 rfl rfl (.val ho11) ag28 rfl ?_
          try simp only [List.set_cons_zero, List.set_cons_succ]
          refine AQ.nil ?_
          refine AQ.then_n ?_
          refine AQ.seq ?_
          refine AQ.region ?_
          refine AQ.freeze 0 rfl (fun J12 hJ12 hp12 => ?_)
          refine AQ.boxAs 1 6 rfl rfl hp12 ?_
          try simp only [List.set_cons_zero, List.set_cons_succ]
          refine AQ.loadvA (.plain rfl) rfl 1 rfl rfl ag43 rfl rfl ?_
          refine AQ.storevA (.plain rfl) rfl 0 rfl rfl ag43 rfl rfl ?_
          try simp only [List.set_cons_zero, List.set_cons_succ]
          refine AQ.nil ?_
          refine AQ.then_n ?_
          refine AQ.ret ?_
          refine AQ.front 1 ?_
          refine AQ.dropN 1 ?_
          refine AQ.eqH (H' := _ :: H) rfl ?_
          exact AQ.doneC (H' := H) hJ12 Tryz.results63 (.cellA 0 rfl rfl ag43 rfl .nil) 1 rfl ⟨(by unfold Entry.clean; (first | rw [if_pos (Decidable.not_not.1 ‹¬ ¬ Named e.kind 1›)] | rw [if_neg ‹¬ Named e.kind 1›]); (first | rw [if_pos (Decidable.not_not.1 ‹¬ ¬ Named e.kind 2›)] | rw [if_neg ‹¬ Named e.kind 2›]); (first | rw [if_pos (Decidable.not_not.1 ‹¬ ¬ Named e.kind 4›)] | rw [if_neg ‹¬ Named e.kind 4›]); (first | rw [if_pos (Decidable.not_not.1 ‹¬ ¬ Named e.kind 8›)] | rw [if_neg ‹¬ Named e.kind 8›]); rfl), rfl⟩
      · refine AQ.skip ?_
        refine AQ.then_n ?_
        refine AQ.seq ?_
        refine AQ.seq ?_
        refine AQ.region ?_
        refine AQ.loadvA (.plain rfl) rfl 1 rfl rfl ag43 rfl rfl ?_
        refine AQ.callf (.plain rfl) rfl rfl en129 (entryNamed _ _ _ _ _ _ _ _ _) ?_
        refine AQ.not_d (.plain rfl) rfl rfl ?_
        refine AQ.nil ?_
        refine AQ.then_n ?_
        refine AQ.cond_d rfl (fun h13 => ?_) (fun h13 => ?_)
        · refine AQ.region ?_
          refine AQ.fieldv (.plain rfl) rfl rfl fo43_6 rfl ?_
          refine AQ.storev1 (.plain rfl) rfl 1 rfl rfl (.val rfl) ag28 rfl ?_
          try simp only [List.set_cons_zero, List.set_cons_succ]
          refine AQ.nil ?_
          refine AQ.then_n ?_
          refine AQ.seq ?_
          refine AQ.region ?_
          refine AQ.fieldv (.plain rfl) rfl rfl fo43_6 rfl ?_
          refine AQ.loadv1 (.plain rfl) rfl 1 rfl rfl ag28 rfl ?_
          refine AQ.callo (.plain rfl) rfl rfl en130 (AC.weak (cloneBytes [] _ (by simp)) (by repeat (first | exact ImpL.nil | apply ImpL.same | apply ImpL.sl0))) (fun v14 => ?_)
          refine AQ.fieldv (.plain rfl) rfl rfl fo43_6 rfl ?_
          refine AQ.oslOne 0 rfl (fun ho15 => ?_)
          refine AQ.storev1 (.plain rfl) rfl 2 rfl rfl (.val ho15) ag28 rfl ?_
          try simp only [List.set_cons_zero, List.set_cons_succ]
          refine AQ.nil ?_
          refine AQ.then_n ?_
          refine AQ.seq ?_
          refine AQ.region ?_
          refine AQ.freeze 0 rfl (fun J16 hJ16 hp16 => ?_)
          refine AQ.boxAs 1 6 rfl rfl hp16 ?_
          try simp only [List.set_cons_zero, List.set_cons_succ]
          refine AQ.loadvA (.plain rfl) rfl 1 rfl rfl ag43 rfl rfl ?_
          refine AQ.storevA (.plain rfl) rfl 0 rfl rfl ag43 rfl rfl ?_
          try simp only [List.set_cons_zero, List.set_cons_succ]
          refine AQ.nil ?_
          refine AQ.then_n ?_
          refine AQ.ret ?_
          refine AQ.front 1 ?_
          refine AQ.dropN 1 ?_
          refine AQ.eqH (H' := _ :: H) rfl ?_
          exact AQ.doneC (H' := H) hJ16 Tryz.results63 (.cellA 0 rfl rfl ag43 rfl .nil) 1 rfl ⟨(by unfold Entry.clean; (first | rw [if_pos (Decidable.not_not.1 ‹¬ ¬ Named e.kind 1›)] | rw [if_neg ‹¬ Named e.kind 1›]); (first | rw [if_pos (Decidable.not_not.1 ‹¬ ¬ Named e.kind 2›)] | rw [if_neg ‹¬ Named e.kind 2›]); (first | rw [if_pos (Decidable.not_not.1 ‹¬ ¬ Named e.kind 4›)] | rw [if_neg ‹¬ Named e.kind 4›]); (first | rw [if_pos (Decidable.not_not.1 ‹¬ ¬ Named e.kind 8›)] | rw [if_neg ‹¬ Named e.kind 8›]); rfl), rfl⟩
        · refine AQ.skip ?_
          refine AQ.then_n ?_
          refine AQ.seq ?_
          refine AQ.region ?_
          refine AQ.fieldv (.plain rfl) rfl rfl fo43_6 rfl ?_
          refine AQ.loadv1 (.plain rfl) rfl 1 rfl rfl ag28 rfl ?_
          refine AQ.callo (.plain rfl) rfl rfl en130 (cloneBytes e.data _ (by omega)) (fun v17 => ?_)
          refine AQ.fieldv (.plain rfl) rfl rfl fo43_6 rfl ?_
          refine AQ.oslOne 0 rfl (fun ho18 => ?_)
          refine AQ.storev1 (.plain rfl) rfl 2 rfl rfl (.val ho18) ag28 rfl ?_
          try simp only [List.set_cons_zero, List.set_cons_succ]
          refine AQ.nil ?_
          refine AQ.then_n ?_
          refine AQ.seq ?_
          refine AQ.region ?_
          refine AQ.freeze 0 rfl (fun J19 hJ19 hp19 => ?_)
          refine AQ.boxAs 1 6 rfl rfl hp19 ?_
          try simp only [List.set_cons_zero, List.set_cons_succ]
          refine AQ.loadvA (.plain rfl) rfl 1 rfl rfl ag43 rfl rfl ?_
          refine AQ.storevA (.plain rfl) rfl 0 rfl rfl ag43 rfl rfl ?_
          try simp only [List.set_cons_zero, List.set_cons_succ]
          refine AQ.nil ?_
          refine AQ.then_n ?_
          refine AQ.ret ?_
          refine AQ.front 1 ?_
          refine AQ.dropN 1 ?_
          refine AQ.eqH (H' := _ :: H) rfl ?_
          exact AQ.doneC (H' := H) hJ19 Tryz.results63 (.cellA 0 rfl rfl ag43 rfl .nil) 1 rfl ⟨(by unfold Entry.clean; (first | rw [if_pos (Decidable.not_not.1 ‹¬ ¬ Named e.kind 1›)] | rw [if_neg ‹¬ Named e.kind 1›]); (first | rw [if_pos (Decidable.not_not.1 ‹¬ ¬ Named e.kind 2›)] | rw [if_neg ‹¬ Named e.kind 2›]); (first | rw [if_pos (Decidable.not_not.1 ‹¬ ¬ Named e.kind 4›)] | rw [if_neg ‹¬ Named e.kind 4›]); (first | rw [if_pos (Decidable.not_not.1 ‹¬ ¬ Named e.kind 8›)] | rw [if_neg ‹¬ Named e.kind 8›]); rfl), rfl⟩
    · refine AQ.skip ?_
      refine AQ.then_n ?_
      refine AQ.seq ?_
      refine AQ.seq ?_
      refine AQ.region ?_
      refine AQ.loadvA (.plain rfl) rfl 1 rfl rfl ag43 rfl rfl ?_
      refine AQ.callf (.plain rfl) rfl rfl en129 (entryNamed _ _ _ _ _ _ _ _ _) ?_
      refine AQ.not_d (.plain rfl) rfl rfl ?_
      refine AQ.nil ?_
      refine AQ.then_n ?_
      refine AQ.cond_d rfl (fun h20 => ?_) (fun h20 => ?_)
      · refine AQ.region ?_
        refine AQ.fieldv (.plain rfl) rfl rfl fo43_5 rfl ?_
        refine AQ.storev1 (.plain rfl) rfl 1 rfl rfl (.val rfl) ag3 rfl ?_
        try simp only [List.set_cons_zero, List.set_cons_succ]
        refine AQ.nil ?_
        refine AQ.then_n ?_
        refine AQ.seq ?_
        refine AQ.seq ?_
        refine AQ.region ?_
        refine AQ.loadvA (.plain rfl) rfl 1 rfl rfl ag43 rfl rfl ?_
        refine AQ.callf (.plain rfl) rfl rfl en129 (entryNamed _ _ _ _ _ _ _ _ _) ?_
        refine AQ.not_d (.plain rfl) rfl rfl ?_
        refine AQ.nil ?_
        refine AQ.then_n ?_
        refine AQ.cond_d rfl (fun h21 => ?_) (fun h21 => ?_)
        · refine AQ.region ?_
          refine AQ.fieldv (.plain rfl) rfl rfl fo43_6 rfl ?_
          refine AQ.storev1 (.plain rfl) rfl 1 rfl rfl (.val rfl) ag28 rfl ?_
          try simp only [List.set_cons_zero, List.set_cons_succ]
          refine AQ.nil ?_
          refine AQ.then_n ?_
          refine AQ.seq ?_
          refine AQ.region ?_
          refine AQ.fieldv (.plain rfl) rfl rfl fo43_6 rfl ?_
          refine AQ.loadv1 (.plain rfl) rfl 1 rfl rfl ag28 rfl ?_
          refine AQ.callo (.plain rfl) rfl rfl en130 (AC.weak (cloneBytes [] _ (by simp)) (by repeat (first | exact ImpL.nil | apply ImpL.same | apply ImpL.sl0))) (fun v22 => ?_)
          refine AQ.fieldv (.plain rfl) rfl rfl fo43_6 rfl ?_
          refine AQ.oslOne 0 rfl (fun ho23 => ?_)
          refine AQ.storev1 (.plain rfl) rfl 2 rfl rfl (.val ho23) ag28 rfl ?_
          try simp only [List.set_cons_zero, List.set_cons_succ]
          refine AQ.nil ?_
          refine AQ.then_n ?_
          refine AQ.seq ?_
          refine AQ.region ?_
          refine AQ.freeze 0 rfl (fun J24 hJ24 hp24 => ?_)
          refine AQ.boxAs 1 6 rfl rfl hp24 ?_
          try simp only [List.set_cons_zero, List.set_cons_succ]
          refine AQ.loadvA (.plain rfl) rfl 1 rfl rfl ag43 rfl rfl ?_
          refine AQ.storevA (.plain rfl) rfl 0 rfl rfl ag43 rfl rfl ?_
          try simp only [List.set_cons_zero, List.set_cons_succ]
          refine AQ.nil ?_
          refine AQ.then_n ?_
          refine AQ.ret ?_
          refine AQ.front 1 ?_
          refine AQ.dropN 1 ?_
          refine AQ.eqH (H' := _ :: H) rfl ?_
          exact AQ.doneC (H' := H) hJ24 Tryz.results63 (.cellA 0 rfl rfl ag43 rfl .nil) 1 rfl ⟨(by unfold Entry.clean; (first | rw [if_pos (Decidable.not_not.1 ‹¬ ¬ Named e.kind 1›)] | rw [if_neg ‹¬ Named e.kind 1›]); (first | rw [if_pos (Decidable.not_not.1 ‹¬ ¬ Named e.kind 2›)] | rw [if_neg ‹¬ Named e.kind 2›]); (first | rw [if_pos (Decidable.not_not.1 ‹¬ ¬ Named e.kind 4›)] | rw [if_neg ‹¬ Named e.kind 4›]); (first | rw [if_pos (Decidable.not_not.1 ‹¬ ¬ Named e.kind 8›)] | rw [if_neg ‹¬ Named e.kind 8›]); rfl), rfl⟩
        · refine AQ.skip ?_
          refine AQ.then_n ?_
          refine AQ.seq ?_
          refine AQ.region ?_
          refine AQ.fieldv (.plain rfl) rfl rfl fo43_6 rfl ?_
          refine AQ.loadv1 (.plain rfl) rfl 1 rfl rfl ag28 rfl ?_
          refine AQ.callo (.plain rfl) rfl rfl en130 (cloneBytes e.data _ (by omega)) (fun v25 => ?_)
          refine AQ.fieldv (.plain rfl) rfl rfl fo43_6 rfl ?_
          refine AQ.oslOne 0 rfl (fun ho26 => ?_)
          refine AQ.storev1 (.plain rfl) rfl 2 rfl rfl (.val ho26) ag28 rfl ?_
          try simp only [List.set_cons_zero, List.set_cons_succ]
          refine AQ.nil ?_
          refine AQ.then_n ?_
          refine AQ.seq ?_
          refine AQ.region ?_
          refine AQ.freeze 0 rfl (fun J27 hJ27 hp27 => ?_)
          refine AQ.boxAs 1 6 rfl rfl hp27 ?_
          try simp only [List.set_cons_zero, List.set_cons_succ]
          refine AQ.loadvA (.plain rfl) rfl 1 rfl rfl ag43 rfl rfl ?_
          refine AQ.storevA (.plain rfl) rfl 0 rfl rfl ag43 rfl rfl ?_
          try simp only [List.set_cons_zero, List.set_cons_succ]
          refine AQ.nil ?_
          refine AQ.then_n ?_
          refine AQ.ret ?_
          refine AQ.front 1 ?_
          refine AQ.dropN 1 ?_
          refine AQ.eqH (H' := _ :: H) rfl ?_
          exact AQ.doneC (H' := H) hJ27 Tryz.results63 (.cellA 0 rfl rfl ag43 rfl .nil) 1 rfl ⟨(by unfold Entry.clean; (first | rw [if_pos (Decidable.not_not.1 ‹¬ ¬ Named e.kind 1›)] | rw [if_neg ‹¬ Named e.kind 1›]); (first | rw [if_pos (Decidable.not_not.1 ‹¬ ¬ Named e.kind 2›)] | rw [if_neg ‹¬ Named e.kind 2›]); (first | rw [if_pos (Decidable.not_not.1 ‹¬ ¬ Named e.kind 4›)] | rw [if_neg ‹¬ Named e.kind 4›]); (first | rw [if_pos (Decidable.not_not.1 ‹¬ ¬ Named e.kind 8›)] | rw [if_neg ‹¬ Named e.kind 8›]); rfl), rfl⟩
      · refine AQ.skip ?_
        refine AQ.then_n ?_
        refine AQ.seq ?_
        refine AQ.seq ?_
        refine AQ.region ?_
        refine AQ.loadvA (.plain rfl) rfl 1 rfl rfl ag43 rfl rfl ?_
        refine AQ.callf (.plain rfl) rfl rfl en129 (entryNamed _ _ _ _ _ _ _ _ _) ?_
        refine AQ.not_d (.plain rfl) rfl rfl ?_
        refine AQ.nil ?_
        refine AQ.then_n ?_
        refine AQ.cond_d rfl (fun h28 => ?_) (fun h28 => ?_)
        · refine AQ.region ?_
          refine AQ.fieldv (.plain rfl) rfl rfl fo43_6 rfl ?_
          refine AQ.storev1 (.plain rfl) rfl 1 rfl rfl (.val rfl) ag28 rfl ?_
          try simp only [List.set_cons_zero, List.set_cons_succ]
          refine AQ.nil ?_
          refine AQ.then_n ?_
          refine AQ.seq ?_
          refine AQ.region ?_
          refine AQ.fieldv (.plain rfl) rfl rfl fo43_6 rfl ?_
          refine AQ.loadv1 (.plain rfl) rfl 1 rfl rfl ag28 rfl ?_
          refine AQ.callo (.plain rfl) rfl rfl en130 (AC.weak (cloneBytes [] _ (by simp)) (by repeat (first | exact ImpL.nil | apply ImpL.same | apply ImpL.sl0))) (fun v29 => ?_)
          refine AQ.fieldv (.plain rfl) rfl rfl fo43_6 rfl ?_
          refine AQ.oslOne 0 rfl (fun ho30 => ?_)
          refine AQ.storev1 (.plain rfl) rfl 2 rfl rfl (.val ho30) ag28 rfl ?_
          try simp only [List.set_cons_zero, List.set_cons_succ]
          refine AQ.nil ?_
          refine AQ.then_n ?_
          refine AQ.seq ?_
          refine AQ.region ?_
          refine AQ.freeze 0 rfl (fun J31 hJ31 hp31 => ?_)
          refine AQ.boxAs 1 6 rfl rfl hp31 ?_
          try simp only [List.set_cons_zero, List.set_cons_succ]
          refine AQ.loadvA (.plain rfl) rfl 1 rfl rfl ag43 rfl rfl ?_
          refine AQ.storevA (.plain rfl) rfl 0 rfl rfl ag43 rfl rfl ?_
          try simp only [List.set_cons_zero, List.set_cons_succ]
          refine AQ.nil ?_
          refine AQ.then_n ?_
          refine AQ.ret ?_
          refine AQ.front 1 ?_
          refine AQ.dropN 1 ?_
          refine AQ.eqH (H' := _ :: H) rfl ?_
          exact AQ.doneC (H' := H) hJ31 Tryz.results63 (.cellA 0 rfl rfl ag43 rfl .nil) 1 rfl ⟨(by unfold Entry.clean; (first | rw [if_pos (Decidable.not_not.1 ‹¬ ¬ Named e.kind 1›)] | rw [if_neg ‹¬ Named e.kind 1›]); (first | rw [if_pos (Decidable.not_not.1 ‹¬ ¬ Named e.kind 2›)] | rw [if_neg ‹¬ Named e.kind 2›]); (first | rw [if_pos (Decidable.not_not.1 ‹¬ ¬ Named e.kind 4›)] | rw [if_neg ‹¬ Named e.kind 4›]); (first | rw [if_pos (Decidable.not_not.1 ‹¬ ¬ Named e.kind 8›)] | rw [if_neg ‹¬ Named e.kind 8›]); rfl), rfl⟩
        · refine AQ.skip ?_
          refine AQ.then_n ?_
          refine AQ.seq ?_
          refine AQ.region ?_
          refine AQ.fieldv (.plain rfl) rfl rfl fo43_6 rfl ?_
          refine AQ.loadv1 (.plain rfl) rfl 1 rfl rfl ag28 rfl ?_
          refine AQ.callo (.plain rfl) rfl rfl en130 (cloneBytes e.data _ (by omega)) (fun v32 => ?_)
          refine AQ.fieldv (.plain rfl) rfl rfl fo43_6 rfl ?_
          refine AQ.oslOne 0 rfl (fun ho33 => ?_)
          refine AQ.storev1 (.plain rfl) rfl 2 rfl rfl (.val ho33) ag28 rfl ?_
          try simp only [List.set_cons_zero, List.set_cons_succ]
          refine AQ.nil ?_
          refine AQ.then_n ?_
          refine AQ.seq ?_
          refine AQ.region ?_
          refine AQ.freeze 0 rfl (fun J34 hJ34 hp34 => ?_)
          refine AQ.boxAs 1 6 rfl rfl hp34 ?_
          try simp only [List.set_cons_zero, List.set_cons_succ]
          refine AQ.loadvA (.plain rfl) rfl 1 rfl rfl ag43 rfl rfl ?_
          refine AQ.storevA (.plain rfl) rfl 0 rfl rfl ag43 rfl rfl ?_
          try simp only [List.set_cons_zero, List.set_cons_succ]
          refine AQ.nil ?_
          refine AQ.then_n ?_
          refine AQ.ret ?_
          refine AQ.front 1 ?_
          refine AQ.dropN 1 ?_
          refine AQ.eqH (H' := _ :: H) rfl ?_
          exact AQ.doneC (H' := H) hJ34 Tryz.results63 (.cellA 0 rfl rfl ag43 rfl .nil) 1 rfl ⟨(by unfold Entry.clean; (first | rw [if_pos (Decidable.not_not.1 ‹¬ ¬ Named e.kind 1›)] | rw [if_neg ‹¬ Named e.kind 1›]); (first | rw [if_pos (Decidable.not_not.1 ‹¬ ¬ Named e.kind 2›)] | rw [if_neg ‹¬ Named e.kind 2›]); (first | rw [if_pos (Decidable.not_not.1 ‹¬ ¬ Named e.kind 4›)] | rw [if_neg ‹¬ Named e.kind 4›]); (first | rw [if_pos (Decidable.not_not.1 ‹¬ ¬ Named e.kind 8›)] | rw [if_neg ‹¬ Named e.kind 8›]); rfl), rfl⟩
  · refine AQ.skip ?_
    refine AQ.then_n ?_
    refine AQ.seq ?_
    refine AQ.seq ?_
    refine AQ.region ?_
    refine AQ.loadvA (.plain rfl) rfl 1 rfl rfl ag43 rfl rfl ?_
    refine AQ.callf (.plain rfl) rfl rfl en129 (entryNamed _ _ _ _ _ _ _ _ _) ?_
    refine AQ.not_d (.plain rfl) rfl rfl ?_
    refine AQ.nil ?_
    refine AQ.then_n ?_
    refine AQ.cond_d rfl (fun h35 => ?_) (fun h35 => ?_)
    · refine AQ.region ?_
      refine AQ.fieldv (.plain rfl) rfl rfl fo43_4 rfl ?_
      refine AQ.storev1 (.plain rfl) rfl 1 rfl rfl (.val rfl) ag3 rfl ?_
      try simp only [List.set_cons_zero, List.set_cons_succ]
      refine AQ.nil ?_
      refine AQ.then_n ?_
      refine AQ.seq ?_
      refine AQ.seq ?_
      refine AQ.region ?_
      refine AQ.loadvA (.plain rfl) rfl 1 rfl rfl ag43 rfl rfl ?_
      refine AQ.callf (.plain rfl) rfl rfl en129 (entryNamed _ _ _ _ _ _ _ _ _) ?_
      refine AQ.not_d (.plain rfl) rfl rfl ?_
      refine AQ.nil ?_
      refine AQ.then_n ?_
      refine AQ.cond_d rfl (fun h36 => ?_) (fun h36 => ?_)
      · refine AQ.region ?_
        refine AQ.fieldv (.plain rfl) rfl rfl fo43_5 rfl ?_
        refine AQ.storev1 (.plain rfl) rfl 1 rfl rfl (.val rfl) ag3 rfl ?_
        try simp only [List.set_cons_zero, List.set_cons_succ]
        refine AQ.nil ?_
        refine AQ.then_n ?_
        refine AQ.seq ?_
        refine AQ.seq ?_
        refine AQ.region ?_
        refine AQ.loadvA (.plain rfl) rfl 1 rfl rfl ag43 rfl rfl ?_
        refine AQ.callf (.plain rfl) rfl rfl en129 (entryNamed _ _ _ _ _ _ _ _ _) ?_
        refine AQ.not_d (.plain rfl) rfl rfl ?_
        refine AQ.nil ?_
        refine AQ.then_n ?_
        refine AQ.cond_d rfl (fun h37 => ?_) (fun h37 => ?_)
        · refine AQ.region ?_
          refine AQ.fieldv (.plain rfl) rfl rfl fo43_6 rfl ?_
          refine AQ.storev1 (.plain rfl) rfl 1 rfl rfl (.val rfl) ag28 rfl ?_
          try simp only [List.set_cons_zero, List.set_cons_succ]
          refine AQ.nil ?_
          refine AQ.then_n ?_
          refine AQ.seq ?_
          refine AQ.region ?_
          refine AQ.fieldv (.plain rfl) rfl rfl fo43_6 rfl ?_
          refine AQ.loadv1 (.plain rfl) rfl 1 rfl rfl ag28 rfl ?_
          refine AQ.callo (.plain rfl) rfl rfl en130 (AC.weak (cloneBytes [] _ (by simp)) (by repeat (first | exact ImpL.nil | apply ImpL.same | apply ImpL.sl0))) (fun v38 => ?_)
          refine AQ.fieldv (.plain rfl) rfl rfl fo43_6 rfl ?_
          refine AQ.oslOne 0 rfl (fun ho39 => ?_)
          refine AQ.storev1 (.plain rfl) rfl 2 rfl rfl (.val ho39) ag28 rfl ?_
          try simp only [List.set_cons_zero, List.set_cons_succ]
          refine AQ.nil ?_
          refine AQ.then_n ?_
          refine AQ.seq ?_
          refine AQ.region ?_
          refine AQ.freeze 0 rfl (fun J40 hJ40 hp40 => ?_)
          refine AQ.boxAs 1 6 rfl rfl hp40 ?_
          try simp only [List.set_cons_zero, List.set_cons_succ]
          refine AQ.loadvA (.plain rfl) rfl 1 rfl rfl ag43 rfl rfl ?_
          refine AQ.storevA (.plain rfl) rfl 0 rfl rfl ag43 rfl rfl ?_
          try simp only [List.set_cons_zero, List.set_cons_succ]
          refine AQ.nil ?_
          refine AQ.then_n ?_
          refine AQ.ret ?_
          refine AQ.front 1 ?_
          refine AQ.dropN 1 ?_
          refine AQ.eqH (H' := _ :: H) rfl ?_
          exact AQ.doneC (H' := H) hJ40 Tryz.results63 (.cellA 0 rfl rfl ag43 rfl .nil) 1 rfl ⟨(by unfold Entry.clean; (first | rw [if_pos (Decidable.not_not.1 ‹¬ ¬ Named e.kind 1›)] | rw [if_neg ‹¬ Named e.kind 1›]); (first | rw [if_pos (Decidable.not_not.1 ‹¬ ¬ Named e.kind 2›)] | rw [if_neg ‹¬ Named e.kind 2›]); (first | rw [if_pos (Decidable.not_not.1 ‹¬ ¬ Named e.kind 4›)] | rw [if_neg ‹¬ Named e.kind 4›]); (first | rw [if_pos (Decidable.not_not.1 ‹¬ ¬ Named e.kind 8›)] | rw [if_neg ‹¬ Named e.kind 8›]); rfl), rfl⟩
        · refine AQ.skip ?_
          refine AQ.then_n ?_
          refine AQ.seq ?_
          refine AQ.region ?_
          refine AQ.fieldv (.plain rfl) rfl rfl fo43_6 rfl ?_
          refine AQ.loadv1 (.plain rfl) rfl 1 rfl rfl ag28 rfl ?_
          refine AQ.callo (.plain rfl) rfl rfl en130 (cloneBytes e.data _ (by omega)) (fun v41 => ?_)
          refine AQ.fieldv (.plain rfl) rfl rfl fo43_6 rfl ?_
          refine AQ.oslOne 0 rfl (fun ho42 => ?_)
          refine AQ.storev1 (.plain rfl) rfl 2 rfl rfl (.val ho42) ag28 rfl ?_
          try simp only [List.set_cons_zero, List.set_cons_succ]
          refine AQ.nil ?_
          refine AQ.then_n ?_
          refine AQ.seq ?_
          refine AQ.region ?_
          refine AQ.freeze 0 rfl (fun J43 hJ43 hp43 => ?_)
          refine AQ.boxAs 1 6 rfl rfl hp43 ?_
          try simp only [List.set_cons_zero, List.set_cons_succ]
          refine AQ.loadvA (.plain rfl) rfl 1 rfl rfl ag43 rfl rfl ?_
          refine AQ.storevA (.plain rfl) rfl 0 rfl rfl ag43 rfl rfl ?_
          try simp only [List.set_cons_zero, List.set_cons_succ]
          refine AQ.nil ?_
          refine AQ.then_n ?_
          refine AQ.ret ?_
          refine AQ.front 1 ?_
          refine AQ.dropN 1 ?_
          refine AQ.eqH (H' := _ :: H) rfl ?_
          exact AQ.doneC (H' := H) hJ43 Tryz.results63 (.cellA 0 rfl rfl ag43 rfl .nil) 1 rfl ⟨(by unfold Entry.clean; (first | rw [if_pos (Decidable.not_not.1 ‹¬ ¬ Named e.kind 1›)] | rw [if_neg ‹¬ Named e.kind 1›]); (first | rw [if_pos (Decidable.not_not.1 ‹¬ ¬ Named e.kind 2›)] | rw [if_neg ‹¬ Named e.kind 2›]); (first | rw [if_pos (Decidable.not_not.1 ‹¬ ¬ Named e.kind 4›)] | rw [if_neg ‹¬ Named e.kind 4›]); (first | rw [if_pos (Decidable.not_not.1 ‹¬ ¬ Named e.kind 8›)] | rw [if_neg ‹¬ Named e.kind 8›]); rfl), rfl⟩
      · refine AQ.skip ?_
        refine AQ.then_n ?_
        refine AQ.seq ?_
        refine AQ.seq ?_
        refine AQ.region ?_
        refine AQ.loadvA (.plain rfl) rfl 1 rfl rfl ag43 rfl rfl ?_
        refine AQ.callf (.plain rfl) rfl rfl en129 (entryNamed _ _ _ _ _ _ _ _ _) ?_
        refine AQ.not_d (.plain rfl) rfl rfl ?_
        refine AQ.nil ?_
        refine AQ.then_n ?_
        refine AQ.cond_d rfl (fun h44 => ?_) (fun h44 => ?_)
        · refine AQ.region ?_
          refine AQ.fieldv (.plain rfl) rfl rfl fo43_6 rfl ?_
          refine AQ.storev1 (.plain rfl) rfl 1 rfl rfl (.val rfl) ag28 rfl ?_
          try simp only [List.set_cons_zero, List.set_cons_succ]
          refine AQ.nil ?_
          refine AQ.then_n ?_
          refine AQ.seq ?_
          refine AQ.region ?_
          refine AQ.fieldv (.plain rfl) rfl rfl fo43_6 rfl ?_
          refine AQ.loadv1 (.plain rfl) rfl 1 rfl rfl ag28 rfl ?_
          refine AQ.callo (.plain rfl) rfl rfl en130 (AC.weak (cloneBytes [] _ (by simp)) (by repeat (first | exact ImpL.nil | apply ImpL.same | apply ImpL.sl0))) (fun v45 => ?_)
          refine AQ.fieldv (.plain rfl) rfl rfl fo43_6 rfl ?_
          refine AQ.oslOne 0 rfl (fun ho46 => ?_)
          refine AQ.storev1 (.plain rfl) rfl 2 rfl rfl (.val ho46) ag28 rfl ?_
          try simp only [List.set_cons_zero, List.set_cons_succ]
          refine AQ.nil ?_
          refine AQ.then_n ?_
          refine AQ.seq ?_
          refine AQ.region ?_
          refine AQ.freeze 0 rfl (fun J47 hJ47 hp47 => ?_)
          refine AQ.boxAs 1 6 rfl rfl hp47 ?_
          try simp only [List.set_cons_zero, List.set_cons_succ]
          refine AQ.loadvA (.plain rfl) rfl 1 rfl rfl ag43 rfl rfl ?_
          refine AQ.storevA (.plain rfl) rfl 0 rfl rfl ag43 rfl rfl ?_
          try simp only [List.set_cons_zero, List.set_cons_succ]
          refine AQ.nil ?_
          refine AQ.then_n ?_
          refine AQ.ret ?_
          refine AQ.front 1 ?_
          refine AQ.dropN 1 ?_
          refine AQ.eqH (H' := _ :: H) rfl ?_
          exact AQ.doneC (H' := H) hJ47 Tryz.results63 (.cellA 0 rfl rfl ag43 rfl .nil) 1 rfl ⟨(by unfold Entry.clean; (first | rw [if_pos (Decidable.not_not.1 ‹¬ ¬ Named e.kind 1›)] | rw [if_neg ‹¬ Named e.kind 1›]); (first | rw [if_pos (Decidable.not_not.1 ‹¬ ¬ Named e.kind 2›)] | rw [if_neg ‹¬ Named e.kind 2›]); (first | rw [if_pos (Decidable.not_not.1 ‹¬ ¬ Named e.kind 4›)] | rw [if_neg ‹¬ Named e.kind 4›]); (first | rw [if_pos (Decidable.not_not.1 ‹¬ ¬ Named e.kind 8›)] | rw [if_neg ‹¬ Named e.kind 8›]); rfl), rfl⟩
        · refine AQ.skip ?_
          refine AQ.then_n ?_
          refine AQ.seq ?_
          refine AQ.region ?_
          refine AQ.fieldv (.plain rfl) rfl rfl fo43_6 rfl ?_
          refine AQ.loadv1 (.plain rfl) rfl 1 rfl rfl ag28 rfl ?_
          refine AQ.callo (.plain rfl) rfl rfl en130 (cloneBytes e.data _ (by omega)) (fun v48 => ?_)
          refine AQ.fieldv (.plain rfl) rfl rfl fo43_6 rfl ?_
          refine AQ.oslOne 0 rfl (fun ho49 => ?_)
          refine AQ.storev1 (.plain rfl) rfl 2 rfl rfl (.val ho49) ag28 rfl ?_
          try simp only [List.set_cons_zero, List.set_cons_succ]
          refine AQ.nil ?_
          refine AQ.then_n ?_
          refine AQ.seq ?_
          refine AQ.region ?_
          refine AQ.freeze 0 rfl (fun J50 hJ50 hp50 => ?_)
          refine AQ.boxAs 1 6 rfl rfl hp50 ?_
          try simp only [List.set_cons_zero, List.set_cons_succ]
          refine AQ.loadvA (.plain rfl) rfl 1 rfl rfl ag43 rfl rfl ?_
          refine AQ.storevA (.plain rfl) rfl 0 rfl rfl ag43 rfl rfl ?_
          try simp only [List.set_cons_zero, List.set_cons_succ]
          refine AQ.nil ?_
          refine AQ.then_n ?_
          refine AQ.ret ?_
          refine AQ.front 1 ?_
          refine AQ.dropN 1 ?_
          refine AQ.eqH (H' := _ :: H) rfl ?_
          exact AQ.doneC (H' := H) hJ50 Tryz.results63 (.cellA 0 rfl rfl ag43 rfl .nil) 1 rfl ⟨(by unfold Entry.clean; (first | rw [if_pos (Decidable.not_not.1 ‹¬ ¬ Named e.kind 1›)] | rw [if_neg ‹¬ Named e.kind 1›]); (first | rw [if_pos (Decidable.not_not.1 ‹¬ ¬ Named e.kind 2›)] | rw [if_neg ‹¬ Named e.kind 2›]); (first | rw [if_pos (Decidable.not_not.1 ‹¬ ¬ Named e.kind 4›)] | rw [if_neg ‹¬ Named e.kind 4›]); (first | rw [if_pos (Decidable.not_not.1 ‹¬ ¬ Named e.kind 8›)] | rw [if_neg ‹¬ Named e.kind 8›]); rfl), rfl⟩
    · refine AQ.skip ?_
      refine AQ.then_n ?_
      refine AQ.seq ?_
      refine AQ.seq ?_
      refine AQ.region ?_
      refine AQ.loadvA (.plain rfl) rfl 1 rfl rfl ag43 rfl rfl ?_
      refine AQ.callf (.plain rfl) rfl rfl en129 (entryNamed _ _ _ _ _ _ _ _ _) ?_
      refine AQ.not_d (.plain rfl) rfl rfl ?_
      refine AQ.nil ?_
      refine AQ.then_n ?_
      refine AQ.cond_d rfl (fun h51 => ?_) (fun h51 => ?_)
      · refine AQ.region ?_
        refine AQ.fieldv (.plain rfl) rfl rfl fo43_5 rfl ?_
        refine AQ.storev1 (.plain rfl) rfl 1 rfl rfl (.val rfl) ag3 rfl ?_
        try simp only [List.set_cons_zero, List.set_cons_succ]
        refine AQ.nil ?_
        refine AQ.then_n ?_
        refine AQ.seq ?_
        refine AQ.seq ?_
        refine AQ.region ?_
        refine AQ.loadvA (.plain rfl) rfl 1 rfl rfl ag43 rfl rfl ?_
        refine AQ.callf (.plain rfl) rfl rfl en129 (entryNamed _ _ _ _ _ _ _ _ _) ?_
        refine AQ.not_d (.plain rfl) rfl rfl ?_
        refine AQ.nil ?_
        refine AQ.then_n ?_
        refine AQ.cond_d rfl (fun h52 => ?_) (fun h52 => ?_)
        · refine AQ.region ?_
          refine AQ.fieldv (.plain rfl) rfl rfl fo43_6 rfl ?_
          refine AQ.storev1 (.plain rfl) rfl 1 rfl rfl (.val rfl) ag28 rfl ?_
          try simp only [List.set_cons_zero, List.set_cons_succ]
          refine AQ.nil ?_
          refine AQ.then_n ?_
          refine AQ.seq ?_
          refine AQ.region ?_
          refine AQ.fieldv (.plain rfl) rfl rfl fo43_6 rfl ?_
          refine AQ.loadv1 (.plain rfl) rfl 1 rfl rfl ag28 rfl ?_
          refine AQ.callo (.plain rfl) rfl rfl en130 (AC.weak (cloneBytes [] _ (by simp)) (by repeat (first | exact ImpL.nil | apply ImpL.same | apply ImpL.sl0))) (fun v53 => ?_)
          refine AQ.fieldv (.plain rfl) rfl rfl fo43_6 rfl ?_
          refine AQ.oslOne 0 rfl (fun ho54 => ?_)
          refine AQ.storev1 (.plain rfl) rfl 2 rfl rfl (.val ho54) ag28 rfl ?_
          try simp only [List.set_cons_zero, List.set_cons_succ]
          refine AQ.nil ?_
          refine AQ.then_n ?_
          refine AQ.seq ?_
          refine AQ.region ?_
          refine AQ.freeze 0 rfl (fun J55 hJ55 hp55 => ?_)
          refine AQ.boxAs 1 6 rfl rfl hp55 ?_
          try simp only [List.set_cons_zero, List.set_cons_succ]
          refine AQ.loadvA (.plain rfl) rfl 1 rfl rfl ag43 rfl rfl ?_
          refine AQ.storevA (.plain rfl) rfl 0 rfl rfl ag43 rfl rfl ?_
          try simp only [List.set_cons_zero, List.set_cons_succ]
          refine AQ.nil ?_
          refine AQ.then_n ?_
          refine AQ.ret ?_
          refine AQ.front 1 ?_
          refine AQ.dropN 1 ?_
          refine AQ.eqH (H' := _ :: H) rfl ?_
          exact AQ.doneC (H' := H) hJ55 Tryz.results63 (.cellA 0 rfl rfl ag43 rfl .nil) 1 rfl ⟨(by unfold Entry.clean; (first | rw [if_pos (Decidable.not_not.1 ‹¬ ¬ Named e.kind 1›)] | rw [if_neg ‹¬ Named e.kind 1›]); (first | rw [if_pos (Decidable.not_not.1 ‹¬ ¬ Named e.kind 2›)] | rw [if_neg ‹¬ Named e.kind 2›]); (first | rw [if_pos (Decidable.not_not.1 ‹¬ ¬ Named e.kind 4›)] | rw [if_neg ‹¬ Named e.kind 4›]); (first | rw [if_pos (Decidable.not_not.1 ‹¬ ¬ Named e.kind 8›)] | rw [if_neg ‹¬ Named e.kind 8›]); rfl), rfl⟩
        · refine AQ.skip ?_
          refine AQ.then_n ?_
          refine AQ.seq ?_
          refine AQ.region ?_
          refine AQ.fieldv (.plain rfl) rfl rfl fo43_6 rfl ?_
          refine AQ.loadv1 (.plain rfl) rfl 1 rfl rfl ag28 rfl ?_
          refine AQ.callo (.plain rfl) rfl rfl en130 (cloneBytes e.data _ (by omega)) (fun v56 => ?_)
          refine AQ.fieldv (.plain rfl) rfl rfl fo43_6 rfl ?_
          refine AQ.oslOne 0 rfl (fun ho57 => ?_)
          refine AQ.storev1 (.plain rfl) rfl 2 rfl rfl (.val ho57) ag28 rfl ?_
          try simp only [List.set_cons_zero, List.set_cons_succ]
          refine AQ.nil ?_
          refine AQ.then_n ?_
          refine AQ.seq ?_
          refine AQ.region ?_
          refine AQ.freeze 0 rfl (fun J58 hJ58 hp58 => ?_)
          refine AQ.boxAs 1 6 rfl rfl hp58 ?_
          try simp only [List.set_cons_zero, List.set_cons_succ]
          refine AQ.loadvA (.plain rfl) rfl 1 rfl rfl ag43 rfl rfl ?_
          refine AQ.storevA (.plain rfl) rfl 0 rfl rfl ag43 rfl rfl ?_
          try simp only [List.set_cons_zero, List.set_cons_succ]
          refine AQ.nil ?_
          refine AQ.then_n ?_
          refine AQ.ret ?_
          refine AQ.front 1 ?_
          refine AQ.dropN 1 ?_
          refine AQ.eqH (H' := _ :: H) rfl ?_
          exact AQ.doneC (H' := H) hJ58 Tryz.results63 (.cellA 0 rfl rfl ag43 rfl .nil) 1 rfl ⟨(by unfold Entry.clean; (first | rw [if_pos (Decidable.not_not.1 ‹¬ ¬ Named e.kind 1›)] | rw [if_neg ‹¬ Named e.kind 1›]); (first | rw [if_pos (Decidable.not_not.1 ‹¬ ¬ Named e.kind 2›)] | rw [if_neg ‹¬ Named e.kind 2›]); (first | rw [if_pos (Decidable.not_not.1 ‹¬ ¬ Named e.kind 4›)] | rw [if_neg ‹¬ Named e.kind 4›]); (first | rw [if_pos (Decidable.not_not.1 ‹¬ ¬ Named e.kind 8›)] | rw [if_neg ‹¬ Named e.kind 8›]); rfl), rfl⟩
      · refine AQ.skip ?_
        refine AQ.then_n ?_
        refine AQ.seq ?_
        refine AQ.seq ?_
        refine AQ.region ?_
        refine AQ.loadvA (.plain rfl) rfl 1 rfl rfl ag43 rfl rfl ?_
        refine AQ.callf (.plain rfl) rfl rfl en129 (entryNamed _ _ _ _ _ _ _ _ _) ?_
        refine AQ.not_d (.plain rfl) rfl rfl ?_
        refine AQ.nil ?_
        refine AQ.then_n ?_
        refine AQ.cond_d rfl (fun h59 => ?_) (fun h59 => ?_)
        · refine AQ.region ?_
          refine AQ.fieldv (.plain rfl) rfl rfl fo43_6 rfl ?_
          refine AQ.storev1 (.plain rfl) rfl 1 rfl rfl (.val rfl) ag28 rfl ?_
          try simp only [List.set_cons_zero, List.set_cons_succ]
          refine AQ.nil ?_
          refine AQ.then_n ?_
          refine AQ.seq ?_
          refine AQ.region ?_
          refine AQ.fieldv (.plain rfl) rfl rfl fo43_6 rfl ?_
          refine AQ.loadv1 (.plain rfl) rfl 1 rfl rfl ag28 rfl ?_
          refine AQ.callo (.plain rfl) rfl rfl en130 (AC.weak (cloneBytes [] _ (by simp)) (by repeat (first | exact ImpL.nil | apply ImpL.same | apply ImpL.sl0))) (fun v60 => ?_)
          refine AQ.fieldv (.plain rfl) rfl rfl fo43_6 rfl ?_
          refine AQ.oslOne 0 rfl (fun ho61 => ?_)
          refine AQ.storev1 (.plain rfl) rfl 2 rfl rfl (.val ho61) ag28 rfl ?_
          try simp only [List.set_cons_zero, List.set_cons_succ]
          refine AQ.nil ?_
          refine AQ.then_n ?_
          refine AQ.seq ?_
          refine AQ.region ?_
          refine AQ.freeze 0 rfl (fun J62 hJ62 hp62 => ?_)
          refine AQ.boxAs 1 6 rfl rfl hp62 ?_
          try simp only [List.set_cons_zero, List.set_cons_succ]
          refine AQ.loadvA (.plain rfl) rfl 1 rfl rfl ag43 rfl rfl ?_
          refine AQ.storevA (.plain rfl) rfl 0 rfl rfl ag43 rfl rfl ?_
          try simp only [List.set_cons_zero, List.set_cons_succ]
          refine AQ.nil ?_
          refine AQ.then_n ?_
          refine AQ.ret ?_
          refine AQ.front 1 ?_
          refine AQ.dropN 1 ?_
          refine AQ.eqH (H' := _ :: H) rfl ?_
          exact AQ.doneC (H' := H) hJ62 Tryz.results63 (.cellA 0 rfl rfl ag43 rfl .nil) 1 rfl ⟨(by unfold Entry.clean; (first | rw [if_pos (Decidable.not_not.1 ‹¬ ¬ Named e.kind 1›)] | rw [if_neg ‹¬ Named e.kind 1›]); (first | rw [if_pos (Decidable.not_not.1 ‹¬ ¬ Named e.kind 2›)] | rw [if_neg ‹¬ Named e.kind 2›]); (first | rw [if_pos (Decidable.not_not.1 ‹¬ ¬ Named e.kind 4›)] | rw [if_neg ‹¬ Named e.kind 4›]); (first | rw [if_pos (Decidable.not_not.1 ‹¬ ¬ Named e.kind 8›)] | rw [if_neg ‹¬ Named e.kind 8›]); rfl), rfl⟩
        · refine AQ.skip ?_
          refine AQ.then_n ?_
          refine AQ.seq ?_
          refine AQ.region ?_
          refine AQ.fieldv (.plain rfl) rfl rfl fo43_6 rfl ?_
          refine AQ.loadv1 (.plain rfl) rfl 1 rfl rfl ag28 rfl ?_
          refine AQ.callo (.plain rfl) rfl rfl en130 (cloneBytes e.data _ (by omega)) (fun v63 => ?_)
          refine AQ.fieldv (.plain rfl) rfl rfl fo43_6 rfl ?_
          refine AQ.oslOne 0 rfl (fun ho64 => ?_)
          refine AQ.storev1 (.plain rfl) rfl 2 rfl rfl (.val ho64) ag28 rfl ?_
          try simp only [List.set_cons_zero, List.set_cons_succ]
          refine AQ.nil ?_
          refine AQ.then_n ?_
          refine AQ.seq ?_
          refine AQ.region ?_
          refine AQ.freeze 0 rfl (fun J65 hJ65 hp65 => ?_)
          refine AQ.boxAs 1 6 rfl rfl hp65 ?_
          try simp only [List.set_cons_zero, List.set_cons_succ]
          refine AQ.loadvA (.plain rfl) rfl 1 rfl rfl ag43 rfl rfl ?_
          refine AQ.storevA (.plain rfl) rfl 0 rfl rfl ag43 rfl rfl ?_
          try simp only [List.set_cons_zero, List.set_cons_succ]
          refine AQ.nil ?_
          refine AQ.then_n ?_
          refine AQ.ret ?_
          refine AQ.front 1 ?_
          refine AQ.dropN 1 ?_
          refine AQ.eqH (H' := _ :: H) rfl ?_
          exact AQ.doneC (H' := H) hJ65 Tryz.results63 (.cellA 0 rfl rfl ag43 rfl .nil) 1 rfl ⟨(by unfold Entry.clean; (first | rw [if_pos (Decidable.not_not.1 ‹¬ ¬ Named e.kind 1›)] | rw [if_neg ‹¬ Named e.kind 1›]); (first | rw [if_pos (Decidable.not_not.1 ‹¬ ¬ Named e.kind 2›)] | rw [if_neg ‹¬ Named e.kind 2›]); (first | rw [if_pos (Decidable.not_not.1 ‹¬ ¬ Named e.kind 4›)] | rw [if_neg ‹¬ Named e.kind 4›]); (first | rw [if_pos (Decidable.not_not.1 ‹¬ ¬ Named e.kind 8›)] | rw [if_neg ‹¬ Named e.kind 8›]); rfl), rfl⟩
end Go.Fx
set_option linter.unusedVariables false
set_option linter.unusedSimpArgs false
set_option maxRecDepth 100000
namespace Go.Fx
open Go Go.Proofs

theorem partsObj (b : Nat) (x : Piece) (y : PPart) (H : List HA)  : AC Tryz.prog 178 [.agg y.cells, .val (.pointer (some ⟨b, 0, none⟩))] ((.box b 183 x.cells :: H)) (fun r' H' => r' = (.val (.bool (objIs x.o y.d))) ∧ H' = .box b 183 x.cells :: H) := by
  refine AC.enter Tryz.func178 rfl Tryz.ntmps178 rfl (fun I0 => ?_)
  refine AQ.seq ?_
  refine AQ.region ?_
  refine AQ.boxA (.plain rfl) rfl rfl (fun b1 => ?_)
  refine AQ.assign (.plain rfl) rfl rfl ?_
  refine AQ.nil ?_
  refine AQ.then_n ?_
  refine AQ.seq ?_
  refine AQ.region ?_
  refine AQ.fieldv (.plain rfl) rfl rfl fo176_0 rfl ?_
  refine AQ.loadv1 (.plain rfl) rfl 0 rfl rfl ag3 rfl ?_
  refine AQ.fieldv (.plain rfl) rfl rfl fo183_0 rfl ?_
  refine AQ.loadv1 (.plain rfl) rfl 1 rfl rfl ag3 rfl ?_
  refine AQ.eql (.plain rfl) rfl rfl rfl ?_
  refine AQ.assign (.plain rfl) rfl rfl ?_
  refine AQ.nil ?_
  refine AQ.then_n ?_
  refine AQ.ret ?_
  refine AQ.dropN 1 ?_
  refine AQ.eqH (H' := _ :: H) rfl ?_
  exact AQ.done1 (Imm.le_refl _) Tryz.results178 rfl ⟨rfl, rfl⟩
theorem indexParts (l : List PPart) (v : Value) (g : Nat) (first cap : List Value) (p : PPart → Bool) (K : List HA) (H : List HA) (y0 : Enters Tryz.prog g) (y1 : ∀ (x : PPart) (H : List HA), x ∈ l → AC Tryz.prog g (first.map .val ++ [.agg x.cells] ++ cap.map .val) (K ++ H) (fun r H' => r = .val (.bool (p x)) ∧ H' = K ++ H)) : AC Tryz.prog 177 [.val v, .val (.func (.func g) first.toArray cap.toArray)] ((.osl v 176 4 (ppRows l) :: (K ++ H))) (fun r' H' => r' = (I (idx p l)) ∧ H' = .osl v 176 4 (ppRows l) :: (K ++ H)) := by
  refine AC.enter Tryz.func177 rfl Tryz.ntmps177 rfl (fun I0 => ?_)
  refine AQ.oslB 0 rfl (fun z1 => ?_)
  simp only [List.length_map] at z1
  refine AQ.seq ?_
  refine AQ.region ?_
  refine AQ.assign (.plain rfl) rfl rfl ?_
  refine AQ.nil ?_
  refine AQ.then_n ?_
  refine AQ.seq ?_
  refine AQ.seq ?_
  refine AQ.region ?_
  refine AQ.move (.plain rfl) rfl rfl ?_
  refine AQ.lenz (.plain rfl) (.osl rfl 0 rfl) rfl Tryz.underlying172 (by first | (simp only [List.length_map]; rfl) | rfl) ?_
  refine AQ.move (.plain rfl) rfl rfl ?_
  refine AQ.nil ?_
  refine AQ.then_n ?_
  refine AQ.block ?_
  refine AQ.loop (σ := Nat) (fun s => [(0, .val v), (1, .val (.func (.func g) first.toArray cap.toArray)), (7, I (l.length : Int)), (8, I (s : Int))]) (fun s => .osl v 176 4 (ppRows l) :: (K ++ H)) (fun s => s ≤ l.length ∧ ∀ y ∈ l.take s, p y = false) (fun s => l.length - s) 0 (by simp) ⟨rfl, rfl, rfl, rfl, trivial⟩ rfl (fun s hs => ?_)
  refine AQ.seq ?_
  refine AQ.region ?_
  refine AQ.lss (.plain rfl) rfl rfl rfl ?_
  refine AQ.nil ?_
  refine AQ.then_n ?_
  refine AQ.seq ?_
  refine AQ.cond_d rfl (fun h1 => ?_) (fun h1 => ?_)
  · refine AQ.skip ?_
    refine AQ.then_n ?_
    refine AQ.seq ?_
    refine AQ.block ?_
    refine AQ.seq ?_
    refine AQ.region ?_
    refine AQ.move (.plain rfl) rfl rfl ?_
    refine AQ.assign (.plain rfl) rfl rfl ?_
    refine AQ.nil ?_
    refine AQ.then_n ?_
    refine AQ.seq ?_
    refine AQ.region ?_
    refine AQ.move (.plain rfl) rfl rfl ?_
    refine AQ.move (.plain rfl) rfl rfl ?_
    refine AQ.move (.plain rfl) rfl rfl ?_
    obtain ⟨x, hx⟩ := lget (l := l) (i := s) (by omega)
    refine AQ.indexo (.plain rfl) rfl 0 rfl rfl rfl Tryz.underlying172 ag176 (by omega) (by simp only [List.length_map]; omega) ?_
    refine AQ.loadoA (.plain rfl) rfl 0 rfl _ 0 rfl (pp_get hx) rfl ag176 rfl rfl ?_
    refine AQ.callvf (first := first) (cap := cap) (.plain rfl) rfl rfl rfl y0 (AC.perm List.perm_middle.symm (y1 x (.osl v 176 4 (ppRows l) :: H) (List.mem_of_getElem? hx))) ?_
    refine AQ.perm List.perm_middle ?_
    refine AQ.nil ?_
    refine AQ.then_n ?_
    refine AQ.cond rfl (fun h2 => ?_) (fun h2 => ?_)
    · refine AQ.seq ?_
      refine AQ.region ?_
      refine AQ.move (.plain rfl) rfl rfl ?_
      refine AQ.assign (.plain rfl) rfl rfl ?_
      refine AQ.nil ?_
      refine AQ.then_n ?_
      refine AQ.ret ?_
      refine AQ.block_r ?_
      refine AQ.then_r ?_
      refine AQ.then_r ?_
      refine AQ.block_r ?_
      refine AQ.then_r ?_
      exact AQ.done1 (Imm.le_refl _) Tryz.results177 rfl ⟨(I_c (idx_hit hx (by assumption) hs.2).symm), rfl⟩
    · refine AQ.skip ?_
      refine AQ.block_n ?_
      refine AQ.then_n ?_
      refine AQ.region ?_
      refine AQ.add (.plain rfl) rfl rfl rfl (i64_id (by omega) (by omega)) ?_
      refine AQ.move (.plain rfl) rfl rfl ?_
      refine AQ.nil ?_
      exact AQ.again (Imm.le_refl _) (s + 1) ⟨by omega, take_more hx (by assumption) hs.2⟩ (by omega) ⟨rfl, rfl, rfl, rfl, trivial⟩ rfl
  · refine AQ.exit ?_
    refine AQ.then_e ?_
    refine AQ.then_e ?_
    refine AQ.block_hit ?_
    refine AQ.then_n ?_
    refine AQ.seq ?_
    refine AQ.region ?_
    refine AQ.assign (.plain rfl) rfl rfl ?_
    refine AQ.nil ?_
    refine AQ.then_n ?_
    refine AQ.ret ?_
    exact AQ.done1 (Imm.le_refl _) Tryz.results177 rfl ⟨(I_c (idx_miss (by have h := hs.2; rwa [List.take_of_length_le (by omega)] at h)).symm), rfl⟩
theorem planParts (l : Layout) (off n : Int) (H : List HA) (y0 : l.May) (y1 : 0 ≤ off) (y2 : 0 ≤ n) (y3 : off + n ≤ 512) : AC Tryz.prog 105 [.agg l.cells, I off, I n] (H) (fun r' H' => r' = (.sl 4 (partRows (partsL (pieces l off n)))) ∧ H' = H) := by
  refine AC.enter Tryz.func105 rfl Tryz.ntmps105 rfl (fun I0 => ?_)
  have hpi := pieces_inv y0 y1 y2
  have hplen := hpi.len
  refine AQ.seq ?_
  refine AQ.region ?_
  refine AQ.boxA (.plain rfl) rfl rfl (fun b1 => ?_)
  refine AQ.assign (.plain rfl) rfl rfl ?_
  refine AQ.nil ?_
  refine AQ.then_n ?_
  refine AQ.seq ?_
  refine AQ.region ?_
  refine AQ.assign (.plain rfl) rfl rfl ?_
  refine AQ.nil ?_
  refine AQ.then_n ?_
  refine AQ.seq ?_
  refine AQ.seq ?_
  refine AQ.region ?_
  refine AQ.loadvA (.plain rfl) rfl 0 rfl rfl ag37 rfl rfl ?_
  refine AQ.move (.plain rfl) rfl rfl ?_
  refine AQ.move (.plain rfl) rfl rfl ?_
  refine AQ.callf (.plain rfl) rfl rfl en176 (stripePieces l off n _ y0 y1 (by omega) y2 (by omega)).data ?_
  refine AQ.lenz (.plain rfl) (.sl rfl) rfl Tryz.underlying174 (by first | (simp only [List.length_map]; rfl) | rfl) ?_
  refine AQ.move (.plain rfl) rfl rfl ?_
  refine AQ.nil ?_
  refine AQ.then_n ?_
  refine AQ.block ?_
  refine AQ.dropN 1 ?_
  refine AQ.eqH (H' := _) rfl ?_
  refine AQ.ownNil (A := none) 176 4 ?_
  refine AQ.loop (σ := Nat × List PPart × Value) (fun s => [(7, .val s.2.2), (14, .sl 4 (pieceRows (pieces l off n))), (15, I ((pieces l off n).length : Int)), (16, I (s.1 : Int))]) (fun s => .osl s.2.2 176 4 (ppRows s.2.1) :: (s.2.1.map PPart.atom ++ H)) (fun s => s.1 ≤ (pieces l off n).length ∧ s.2.1.map PPart.d = groupP ((pieces l off n).take s.1) ∧ PBounds s.1 s.2.1) (fun s => (pieces l off n).length - s.1) (0, [], Value.slice none 0 0) ⟨by simp, rfl, by simp, by simp⟩ ⟨rfl, rfl, rfl, rfl, trivial⟩ rfl (fun s hs => ?_)
  refine AQ.seq ?_
  refine AQ.region ?_
  refine AQ.lss (.plain rfl) rfl rfl rfl ?_
  refine AQ.nil ?_
  refine AQ.then_n ?_
  refine AQ.seq ?_
  refine AQ.cond_d rfl (fun h3 => ?_) (fun h3 => ?_)
  · refine AQ.skip ?_
    refine AQ.then_n ?_
    refine AQ.seq ?_
    refine AQ.block ?_
    refine AQ.seq ?_
    refine AQ.region ?_
    obtain ⟨x, hx⟩ := lgetz (l := (pieces l off n)) (z := (s.1 : Int)) (by omega) (by omega)
    refine AQ.indexAddr (.plain rfl) rfl rfl rfl Tryz.underlying174 ag183 (by omega) (map_getz hx) ?_
    rw [Int.toNat_natCast] at hx
    have hxo := hpi.2 x (List.mem_of_getElem? hx)
    have hxb := hxo.bounds y0 y1
    have hxl := hxo.len
    have hxq := pieces_obj y0 y1 y2 y3 x (List.mem_of_getElem? hx)
    have hlo := y0.2.2.2.2.1
    have hpb := hs.2.2.1
    refine AQ.loadA (.plain rfl) rfl rfl ag183 rfl rfl ?_
    refine AQ.alloc (.plain rfl) zo183 rfl rfl (fun b4 => ?_)
    refine AQ.storevA (.plain rfl) rfl 0 rfl rfl ag183 rfl rfl ?_
    try simp only [List.set_cons_zero, List.set_cons_succ]
    refine AQ.nil ?_
    refine AQ.then_n ?_
    refine AQ.seq ?_
    refine AQ.region ?_
    refine AQ.move (.plain rfl) rfl rfl ?_
    refine AQ.makeFunc (fs := []) (cs := [_]) (.plain rfl) rfl rfl rfl ?_
    refine AQ.front 1 ?_
    refine AQ.callf (.plain rfl) rfl rfl en177 (indexParts s.2.1 s.2.2 178 [] [_] (fun y => objIs x.o y.d) [.box b4 183 x.cells] _ en178 (fun y H _ => partsObj _ _ _ H)) ?_
    refine AQ.assign (.plain rfl) rfl rfl ?_
    refine AQ.nil ?_
    refine AQ.then_n ?_
    refine AQ.seq ?_
    refine AQ.seq ?_
    refine AQ.region ?_
    refine AQ.move (.plain rfl) rfl rfl ?_
    refine AQ.lss (.plain rfl) rfl rfl rfl ?_
    refine AQ.nil ?_
    refine AQ.then_n ?_
    refine AQ.cond_d rfl (fun h5 => ?_) (fun h5 => ?_)
    · refine AQ.seq ?_
      refine AQ.region ?_
      refine AQ.move (.plain rfl) rfl rfl ?_
      refine AQ.lenz (.plain rfl) (.osl rfl 0 rfl) rfl Tryz.underlying172 (by first | (simp only [List.length_map]; rfl) | rfl) ?_
      refine AQ.assign (.plain rfl) rfl rfl ?_
      refine AQ.nil ?_
      refine AQ.then_n ?_
      refine AQ.region ?_
      refine AQ.move (.plain rfl) rfl rfl ?_
      refine AQ.fieldv (.plain rfl) rfl rfl fo183_0 rfl ?_
      refine AQ.loadv1 (.plain rfl) rfl 1 rfl rfl ag3 rfl ?_
      refine AQ.fieldv (.plain rfl) rfl rfl fo183_1 rfl ?_
      refine AQ.loadv1 (.plain rfl) rfl 1 rfl rfl ag3 rfl ?_
      refine AQ.build (.plain rfl) rfl zo176 rfl pl176 (.one rfl (.val rfl) rfl rfl (.one rfl (.val rfl) rfl rfl .nil)) ?_
      refine AQ.buildSlice (rows := [[_, _, _, _]]) (.plain rfl) rfl Tryz.underlying172 el176 zo176 rfl rfl rfl (.agg rfl rfl rfl .nil) rfl rfl (by simp) (fun u6 => ?_)
      refine AQ.append (.plain rfl) rfl 1 rfl (.osl rfl 0 rfl) rfl Tryz.underlying172 el176 rfl rfl (by simp only [List.length_cons, List.length_nil, List.length_map, List.length_append, List.length_range]; omega) (fun v7 => ?_)
      try simp only [List.set_cons_zero, List.set_cons_succ]
      refine AQ.assign (.plain rfl) rfl rfl ?_
      refine AQ.nil ?_
      refine AQ.dropN 1 ?_
      refine AQ.eqH (H' := _ :: _ :: _) rfl ?_
      obtain ⟨y, hy⟩ : ∃ y : PPart, y = ⟨⟨x.o, x.off, 0, []⟩, none, 0, 0⟩ := ⟨_, rfl⟩
      obtain ⟨l1, hl1⟩ : ∃ l1 : List PPart, l1 = s.2.1 ++ [y] := ⟨_, rfl⟩
      obtain ⟨k, hk0⟩ : ∃ k : Nat, k = s.2.1.length := ⟨_, rfl⟩
      have hk : l1[k]? = some y := (by rw [hl1, hk0]; simp)
      refine AQ.oslR 0 rfl (show _ = ppRows l1 by rw [hl1, hy]; simp) ?_
      try simp only [List.set_cons_zero, List.set_cons_succ]
      refine AQ.ownNil (A := none) 183 4 ?_
      refine AQ.perm (List.perm_middle (l₁ := [_, _] ++ s.2.1.map PPart.atom) (l₂ := H)).symm ?_
      refine AQ.tail [_, _] (T := s.2.1.map PPart.atom ++ .osl (.slice none 0 0) 183 4 [] :: H) (show _ = l1.map PPart.atom ++ H by rw [hl1, hy, List.map_append, List.append_assoc]; rfl) ?_
      refine AQ.eqv (t := 10) (u := .int .i64 (k : Int)) rfl (by rw [hk0]) ?_
      have hyb : 0 ≤ y.d.n ∧ y.d.n ≤ 512 * (s.1 : Int) ∧ y.d.ps.length ≤ s.1 ∧ 0 ≤ y.d.o ∧ y.d.o ≤ 1099511627776 := (by rw [hy]; simp only [List.length_nil]; omega)
      have hll : l1.length ≤ 1000 := (by rw [hl1]; have := hs.2.2.1; simp; omega)
      have hkl : k < l1.length := (List.getElem?_eq_some_iff.1 hk).1
      refine AQ.then_n ?_
      refine AQ.seq ?_
      refine AQ.weaken (E' := [(7, _), (14, _), (15, _), (16, _), (17, _), (9, _), (10, _), (24, _)]) ⟨rfl, rfl, rfl, rfl, rfl, rfl, rfl, rfl, trivial⟩ ?_
      refine AQ.draw (F0 := _) [.fix none (some 10) _, .fix none none _, .fix (some 10) none (.osl v7 176 4 ((ppRows l1).set (k : Int).toNat (y.cells.set 2 (I (y.d.n + x.len)))))] mixed rfl (
        .cons (.fix 35 [] [] [] _) (fun xs E' F Q' k => AQ.move (.plain rfl) rfl rfl (AQ.nil (k (0, undef)))) <|
        .cons (.fix 36 [] [] [] _) (fun xs E' F Q' k => AQ.move (.plain rfl) rfl rfl (AQ.nil (k (0, undef)))) <|
        .cons (.fix 37 [0, 1] [0, 1] [0] _) (fun xs E' F Q' k => AQ.indexo (.plain rfl) rfl 0 rfl rfl rfl Tryz.underlying172 ag176 (by omega) (by simp only [List.length_map, List.length_set]; omega) (AQ.nil (k (0, undef)))) <|
        .cons (.fix 38 [0, 1, 2] [2] [] _) (fun xs E' F Q' k => AQ.fieldo (.plain rfl) rfl rfl fo176_2 rfl (AQ.nil (k (0, undef)))) <|
        .cons (.fix 39 [0, 1, 2, 3] [3] [0] _) (fun xs E' F Q' k => AQ.loado1 (.plain rfl) rfl 0 rfl _ 2 rfl (pp_get hk) rfl rfl ag3 (AQ.nil (k (0, undef)))) <|
        .cons (.fix 40 [] [] [] _) (fun xs E' F Q' k => AQ.fieldv (.plain rfl) rfl rfl fo183_2 rfl (AQ.nil (k (0, undef)))) <|
        .cons (.fix 41 [5] [5] [1] _) (fun xs E' F Q' k => AQ.loadv1 (.plain rfl) rfl 0 rfl rfl ag3 rfl (AQ.nil (k (0, undef)))) <|
        .cons (.fix 42 [0, 1, 2, 3, 4, 5, 6] [4, 6] [] _) (fun xs E' F Q' k => AQ.add (.plain rfl) rfl rfl rfl (i64_id (by omega) (by omega)) (AQ.nil (k (0, undef)))) <|
        .cons (.fix 43 [0, 1, 2, 3, 4, 5, 6, 7] [0, 1] [0] _) (fun xs E' F Q' k => AQ.indexo (.plain rfl) rfl 0 rfl rfl rfl Tryz.underlying172 ag176 (by omega) (by simp only [List.length_map, List.length_set]; omega) (AQ.nil (k (0, undef)))) <|
        .cons (.fix 44 [0, 1, 2, 3, 4, 5, 6, 7, 8] [8] [] _) (fun xs E' F Q' k => AQ.fieldo (.plain rfl) rfl rfl fo176_2 rfl (AQ.nil (k (0, undef)))) <|
        .cons (.fix0 [0, 1, 2, 3, 4, 5, 6, 7, 8, 9] [7, 9] [0]) (fun xs E' F Q' k => AQ.storeo1 (.plain rfl) rfl 0 rfl _ 2 rfl (pp_get hk) rfl rfl (.val rfl) ag3 (AQ.nil (k (0, undef)))) <|
        .nil) (by kernel_rfl) (by kernel_rfl) (fun x8 => ?_)
      refine AQ.then_n ?_
      refine AQ.front 1 ?_
      refine AQ.eqH (H' := _ :: _ :: _) rfl ?_
      refine AQ.oslR 0 rfl (show _ = ppRows (l1.set k (⟨⟨y.d.o, y.d.off, y.d.n + x.len, y.d.ps⟩, y.A, y.L, y.C⟩ : PPart)) from pp_set rfl) ?_
      try simp only [List.set_cons_zero, List.set_cons_succ]
      refine AQ.permT [_, _] (perm_out PPart.atom hk H) ?_
      refine AQ.front 2 ?_
      refine AQ.weaken (E' := [(7, _), (14, _), (15, _), (16, _), (17, _), (9, _), (10, _), (24, _)]) ⟨rfl, rfl, rfl, rfl, rfl, rfl, rfl, rfl, trivial⟩ ?_
      refine AQ.draw (F0 := _) [.fix none (some 9) _, .fix none (some 12) _, .fix none none _, .osl (some 8) none 8 _ _ _, .osl (some 9) none 9 _ _ _, ⟨some 12, none, [9], fun l => .osl v7 176 4 ((ppRows (l1.set k (⟨⟨y.d.o, y.d.off, y.d.n + x.len, y.d.ps⟩, y.A, y.L, y.C⟩ : PPart))).set (k : Int).toNat ((⟨⟨y.d.o, y.d.off, y.d.n + x.len, y.d.ps⟩, y.A, y.L, y.C⟩ : PPart).cells.set 3 (.val (l.headD xNone).2)))⟩] mixed rfl (
        .cons (.fix 45 [] [] [] _) (fun xs E' F Q' k => AQ.move (.plain rfl) rfl rfl (AQ.nil (k (0, undef)))) <|
        .cons (.fix 46 [] [] [] _) (fun xs E' F Q' k => AQ.move (.plain rfl) rfl rfl (AQ.nil (k (0, undef)))) <|
        .cons (.fix 47 [] [] [] _) (fun xs E' F Q' k => AQ.move (.plain rfl) rfl rfl (AQ.nil (k (0, undef)))) <|
        .cons (.fix 48 [] [] [] _) (fun xs E' F Q' k => AQ.move (.plain rfl) rfl rfl (AQ.nil (k (0, undef)))) <|
        .cons (.fix 49 [2, 3] [2, 3] [1] _) (fun xs E' F Q' k => AQ.indexo (.plain rfl) rfl 0 rfl rfl rfl Tryz.underlying172 ag176 (by omega) (by simp only [List.length_map, List.length_set]; omega) (AQ.nil (k (0, undef)))) <|
        .cons (.fix 50 [2, 3, 4] [4] [] _) (fun xs E' F Q' k => AQ.fieldo (.plain rfl) rfl rfl fo176_3 rfl (AQ.nil (k (0, undef)))) <|
        .cons (.fix 51 [2, 3, 4, 5] [5] [1] _) (fun xs E' F Q' k => AQ.loado1 (.plain rfl) rfl 0 rfl _ 3 rfl (pp_get (set_get_same (y := (⟨⟨y.d.o, y.d.off, y.d.n + x.len, y.d.ps⟩, y.A, y.L, y.C⟩ : PPart)) hk)) rfl rfl ag174 (AQ.nil (k (0, undef)))) <|
        .cons (.fix 52 [] [] [2] _) (fun xs E' F Q' k => AQ.loadvA (.plain rfl) rfl 0 rfl rfl ag183 rfl rfl (AQ.nil (k (0, undef)))) <|
        .cons (.own 53 [7] [7] [] 8) (fun xs E' F Q' k => AQ.buildSlice (rows := [[_, _, _, _]]) (.plain rfl) rfl Tryz.underlying174 el183 zo183 rfl rfl rfl (.agg rfl rfl rfl .nil) rfl rfl (by simp) (fun u9 => AQ.nil (k (0, u9)))) <|
        .cons (.own 54 [2, 3, 4, 5, 6, 7, 8] [6, 8] [3, 0] 9) (fun xs E' F Q' k => AQ.append (.plain rfl) rfl 1 rfl (.osl rfl 0 rfl) rfl Tryz.underlying174 el183 rfl rfl (by simp only [List.length_cons, List.length_nil, List.length_map, List.length_append, List.length_range]; omega) (fun v10 => AQ.nil (k (0, v10)))) <|
        .cons (.fix 55 [0, 1, 2, 3, 4, 5, 6, 7, 8, 9] [0, 1] [1] _) (fun xs E' F Q' k => AQ.indexo (.plain rfl) rfl 0 rfl rfl rfl Tryz.underlying172 ag176 (by omega) (by simp only [List.length_map, List.length_set]; omega) (AQ.nil (k (0, undef)))) <|
        .cons (.fix 56 [0, 1, 2, 3, 4, 5, 6, 7, 8, 9, 10] [10] [] _) (fun xs E' F Q' k => AQ.fieldo (.plain rfl) rfl rfl fo176_3 rfl (AQ.nil (k (0, undef)))) <|
        .cons (.fix0 [0, 1, 2, 3, 4, 5, 6, 7, 8, 9, 10, 11] [9, 11] [4, 1]) (fun xs E' F Q' k => AQ.oslOne 0 rfl (fun ho => AQ.storeo1 (.plain rfl) rfl 1 rfl _ 3 rfl (pp_get (set_get_same (y := (⟨⟨y.d.o, y.d.off, y.d.n + x.len, y.d.ps⟩, y.A, y.L, y.C⟩ : PPart)) hk)) rfl rfl (.val ho) ag174 (AQ.nil (k (0, undef))))) <|
        .nil) (by kernel_rfl) (by kernel_rfl) (fun x11 => ?_)
      refine AQ.dropN 1 ?_
      refine AQ.dropN 1 ?_
      refine AQ.front 1 ?_
      refine AQ.eqH (H' := _ :: _ :: _) rfl ?_
      refine AQ.eqH (H' := .osl v7 176 4 ((ppRows (l1.set k (⟨⟨y.d.o, y.d.off, y.d.n + x.len, y.d.ps⟩, y.A, y.L, y.C⟩ : PPart))).set (k : Int).toNat ((⟨⟨y.d.o, y.d.off, y.d.n + x.len, y.d.ps⟩, y.A, y.L, y.C⟩ : PPart).cells.set 3 (.val (x11 9).2))) :: .osl (x11 9).2 183 4 (pieceRows y.d.ps ++ [x.cells]) :: ((l1.eraseIdx k).map PPart.atom ++ H)) rfl ?_
      refine AQ.weaken (E' := [(7, .val v7), (14, _), (15, _), (16, _)]) ⟨rfl, rfl, rfl, rfl, trivial⟩ ?_
      generalize (x11 9).2 = vn
      refine AQ.oslShape 1 rfl (fun A L C hv => ?_)
      subst hv
      refine AQ.oslR 0 rfl (show _ = ppRows (l1.set k (⟨⟨y.d.o, y.d.off, y.d.n + x.len, y.d.ps ++ [x]⟩, A, L, C⟩ : PPart)) from (pp_set (y := (⟨⟨y.d.o, y.d.off, y.d.n + x.len, y.d.ps ++ [x]⟩, A, L, C⟩ : PPart)) rfl).trans (by rw [List.set_set])) ?_
      try simp only [List.set_cons_zero, List.set_cons_succ]
      refine AQ.oslR 1 rfl (show _ = pieceRows (y.d.ps ++ [x]) by simp) ?_
      try simp only [List.set_cons_zero, List.set_cons_succ]
      refine AQ.permT [_] (perm_in PPart.atom (y := (⟨⟨y.d.o, y.d.off, y.d.n + x.len, y.d.ps ++ [x]⟩, A, L, C⟩ : PPart)) hk H) ?_
      refine AQ.block_n ?_
      refine AQ.then_n ?_
      refine AQ.region ?_
      refine AQ.add (.plain rfl) rfl rfl rfl (i64_id (by omega) (by omega)) ?_
      refine AQ.move (.plain rfl) rfl rfl ?_
      refine AQ.nil ?_
      exact AQ.again (Imm.le_refl _) (s.1 + 1, l1.set k (⟨⟨y.d.o, y.d.off, y.d.n + x.len, y.d.ps ++ [x]⟩, A, L, C⟩ : PPart), _) ⟨by simp only; omega, by simp only; rw [hl1, hk0]; exact grp_new hs.2.1 hx (by omega) (by rw [hy]; simp), pb_step hs.2.2 (.inr ⟨_, hl1⟩) (fun z hz => by rw [hl1] at hz; have := List.append_cancel_left hz; injection this with this; rw [← this]; exact hyb) (by simp only [List.length_append, List.length_singleton]; omega)⟩ (by simp only; omega) ⟨rfl, rfl, rfl, rfl, trivial⟩ rfl
    · refine AQ.skip ?_
      refine AQ.then_n ?_
      refine AQ.seq ?_
      obtain ⟨y, hy, _⟩ := idx_spec (show 0 ≤ idx (fun y : PPart => objIs x.o y.d) s.2.1 by omega)
      obtain ⟨k, hk1⟩ := Int.eq_ofNat_of_zero_le (show 0 ≤ idx (fun y : PPart => objIs x.o y.d) s.2.1 by omega)
      rw [hk1, Int.toNat_natCast] at hy
      obtain ⟨l1, hl1⟩ : ∃ l1 : List PPart, l1 = s.2.1 := ⟨_, rfl⟩
      have hk : l1[k]? = some y := (by rw [hl1]; exact hy)
      refine AQ.oslR 0 rfl (show _ = ppRows l1 by rw [hl1]) ?_
      try simp only [List.set_cons_zero, List.set_cons_succ]
      refine AQ.tail [_, _] (T := s.2.1.map PPart.atom ++ H) (show _ = l1.map PPart.atom ++ H by rw [hl1]) ?_
      refine AQ.eqv (t := 10) (u := .int .i64 (k : Int)) rfl (by rw [hk1]) ?_
      have hyb := hs.2.2.2 y (List.mem_of_getElem? hy)
      have hll : l1.length ≤ 1000 := (by rw [hl1]; have := hs.2.2.1; omega)
      have hkl : k < l1.length := (List.getElem?_eq_some_iff.1 hk).1
      refine AQ.weaken (E' := [(7, _), (14, _), (15, _), (16, _), (17, _), (9, _), (10, _), (24, _)]) ⟨rfl, rfl, rfl, rfl, rfl, rfl, rfl, rfl, trivial⟩ ?_
      refine AQ.draw (F0 := _) [.fix none (some 10) _, .fix none none _, .fix (some 10) none (.osl s.2.2 176 4 ((ppRows l1).set (k : Int).toNat (y.cells.set 2 (I (y.d.n + x.len)))))] mixed rfl (
        .cons (.fix 35 [] [] [] _) (fun xs E' F Q' k => AQ.move (.plain rfl) rfl rfl (AQ.nil (k (0, undef)))) <|
        .cons (.fix 36 [] [] [] _) (fun xs E' F Q' k => AQ.move (.plain rfl) rfl rfl (AQ.nil (k (0, undef)))) <|
        .cons (.fix 37 [0, 1] [0, 1] [0] _) (fun xs E' F Q' k => AQ.indexo (.plain rfl) rfl 0 rfl rfl rfl Tryz.underlying172 ag176 (by omega) (by simp only [List.length_map, List.length_set]; omega) (AQ.nil (k (0, undef)))) <|
        .cons (.fix 38 [0, 1, 2] [2] [] _) (fun xs E' F Q' k => AQ.fieldo (.plain rfl) rfl rfl fo176_2 rfl (AQ.nil (k (0, undef)))) <|
        .cons (.fix 39 [0, 1, 2, 3] [3] [0] _) (fun xs E' F Q' k => AQ.loado1 (.plain rfl) rfl 0 rfl _ 2 rfl (pp_get hk) rfl rfl ag3 (AQ.nil (k (0, undef)))) <|
        .cons (.fix 40 [] [] [] _) (fun xs E' F Q' k => AQ.fieldv (.plain rfl) rfl rfl fo183_2 rfl (AQ.nil (k (0, undef)))) <|
        .cons (.fix 41 [5] [5] [1] _) (fun xs E' F Q' k => AQ.loadv1 (.plain rfl) rfl 0 rfl rfl ag3 rfl (AQ.nil (k (0, undef)))) <|
        .cons (.fix 42 [0, 1, 2, 3, 4, 5, 6] [4, 6] [] _) (fun xs E' F Q' k => AQ.add (.plain rfl) rfl rfl rfl (i64_id (by omega) (by omega)) (AQ.nil (k (0, undef)))) <|
        .cons (.fix 43 [0, 1, 2, 3, 4, 5, 6, 7] [0, 1] [0] _) (fun xs E' F Q' k => AQ.indexo (.plain rfl) rfl 0 rfl rfl rfl Tryz.underlying172 ag176 (by omega) (by simp only [List.length_map, List.length_set]; omega) (AQ.nil (k (0, undef)))) <|
        .cons (.fix 44 [0, 1, 2, 3, 4, 5, 6, 7, 8] [8] [] _) (fun xs E' F Q' k => AQ.fieldo (.plain rfl) rfl rfl fo176_2 rfl (AQ.nil (k (0, undef)))) <|
        .cons (.fix0 [0, 1, 2, 3, 4, 5, 6, 7, 8, 9] [7, 9] [0]) (fun xs E' F Q' k => AQ.storeo1 (.plain rfl) rfl 0 rfl _ 2 rfl (pp_get hk) rfl rfl (.val rfl) ag3 (AQ.nil (k (0, undef)))) <|
        .nil) (by kernel_rfl) (by kernel_rfl) (fun x12 => ?_)
      refine AQ.then_n ?_
      refine AQ.front 1 ?_
      refine AQ.eqH (H' := _ :: _ :: _) rfl ?_
      refine AQ.oslR 0 rfl (show _ = ppRows (l1.set k (⟨⟨y.d.o, y.d.off, y.d.n + x.len, y.d.ps⟩, y.A, y.L, y.C⟩ : PPart)) from pp_set rfl) ?_
      try simp only [List.set_cons_zero, List.set_cons_succ]
      refine AQ.permT [_, _] (perm_out PPart.atom hk H) ?_
      refine AQ.front 2 ?_
      refine AQ.weaken (E' := [(7, _), (14, _), (15, _), (16, _), (17, _), (9, _), (10, _), (24, _)]) ⟨rfl, rfl, rfl, rfl, rfl, rfl, rfl, rfl, trivial⟩ ?_
      refine AQ.draw (F0 := _) [.fix none (some 9) _, .fix none (some 12) _, .fix none none _, .osl (some 8) none 8 _ _ _, .osl (some 9) none 9 _ _ _, ⟨some 12, none, [9], fun l => .osl s.2.2 176 4 ((ppRows (l1.set k (⟨⟨y.d.o, y.d.off, y.d.n + x.len, y.d.ps⟩, y.A, y.L, y.C⟩ : PPart))).set (k : Int).toNat ((⟨⟨y.d.o, y.d.off, y.d.n + x.len, y.d.ps⟩, y.A, y.L, y.C⟩ : PPart).cells.set 3 (.val (l.headD xNone).2)))⟩] mixed rfl (
        .cons (.fix 45 [] [] [] _) (fun xs E' F Q' k => AQ.move (.plain rfl) rfl rfl (AQ.nil (k (0, undef)))) <|
        .cons (.fix 46 [] [] [] _) (fun xs E' F Q' k => AQ.move (.plain rfl) rfl rfl (AQ.nil (k (0, undef)))) <|
        .cons (.fix 47 [] [] [] _) (fun xs E' F Q' k => AQ.move (.plain rfl) rfl rfl (AQ.nil (k (0, undef)))) <|
        .cons (.fix 48 [] [] [] _) (fun xs E' F Q' k => AQ.move (.plain rfl) rfl rfl (AQ.nil (k (0, undef)))) <|
        .cons (.fix 49 [2, 3] [2, 3] [1] _) (fun xs E' F Q' k => AQ.indexo (.plain rfl) rfl 0 rfl rfl rfl Tryz.underlying172 ag176 (by omega) (by simp only [List.length_map, List.length_set]; omega) (AQ.nil (k (0, undef)))) <|
        .cons (.fix 50 [2, 3, 4] [4] [] _) (fun xs E' F Q' k => AQ.fieldo (.plain rfl) rfl rfl fo176_3 rfl (AQ.nil (k (0, undef)))) <|
        .cons (.fix 51 [2, 3, 4, 5] [5] [1] _) (fun xs E' F Q' k => AQ.loado1 (.plain rfl) rfl 0 rfl _ 3 rfl (pp_get (set_get_same (y := (⟨⟨y.d.o, y.d.off, y.d.n + x.len, y.d.ps⟩, y.A, y.L, y.C⟩ : PPart)) hk)) rfl rfl ag174 (AQ.nil (k (0, undef)))) <|
        .cons (.fix 52 [] [] [2] _) (fun xs E' F Q' k => AQ.loadvA (.plain rfl) rfl 0 rfl rfl ag183 rfl rfl (AQ.nil (k (0, undef)))) <|
        .cons (.own 53 [7] [7] [] 8) (fun xs E' F Q' k => AQ.buildSlice (rows := [[_, _, _, _]]) (.plain rfl) rfl Tryz.underlying174 el183 zo183 rfl rfl rfl (.agg rfl rfl rfl .nil) rfl rfl (by simp) (fun u13 => AQ.nil (k (0, u13)))) <|
        .cons (.own 54 [2, 3, 4, 5, 6, 7, 8] [6, 8] [3, 0] 9) (fun xs E' F Q' k => AQ.append (.plain rfl) rfl 1 rfl (.osl rfl 0 rfl) rfl Tryz.underlying174 el183 rfl rfl (by simp only [List.length_cons, List.length_nil, List.length_map, List.length_append, List.length_range]; omega) (fun v14 => AQ.nil (k (0, v14)))) <|
        .cons (.fix 55 [0, 1, 2, 3, 4, 5, 6, 7, 8, 9] [0, 1] [1] _) (fun xs E' F Q' k => AQ.indexo (.plain rfl) rfl 0 rfl rfl rfl Tryz.underlying172 ag176 (by omega) (by simp only [List.length_map, List.length_set]; omega) (AQ.nil (k (0, undef)))) <|
        .cons (.fix 56 [0, 1, 2, 3, 4, 5, 6, 7, 8, 9, 10] [10] [] _) (fun xs E' F Q' k => AQ.fieldo (.plain rfl) rfl rfl fo176_3 rfl (AQ.nil (k (0, undef)))) <|
        .cons (.fix0 [0, 1, 2, 3, 4, 5, 6, 7, 8, 9, 10, 11] [9, 11] [4, 1]) (fun xs E' F Q' k => AQ.oslOne 0 rfl (fun ho => AQ.storeo1 (.plain rfl) rfl 1 rfl _ 3 rfl (pp_get (set_get_same (y := (⟨⟨y.d.o, y.d.off, y.d.n + x.len, y.d.ps⟩, y.A, y.L, y.C⟩ : PPart)) hk)) rfl rfl (.val ho) ag174 (AQ.nil (k (0, undef))))) <|
        .nil) (by kernel_rfl) (by kernel_rfl) (fun x15 => ?_)
      refine AQ.dropN 1 ?_
      refine AQ.dropN 1 ?_
      refine AQ.front 1 ?_
      refine AQ.eqH (H' := _ :: _ :: _) rfl ?_
      refine AQ.eqH (H' := .osl s.2.2 176 4 ((ppRows (l1.set k (⟨⟨y.d.o, y.d.off, y.d.n + x.len, y.d.ps⟩, y.A, y.L, y.C⟩ : PPart))).set (k : Int).toNat ((⟨⟨y.d.o, y.d.off, y.d.n + x.len, y.d.ps⟩, y.A, y.L, y.C⟩ : PPart).cells.set 3 (.val (x15 9).2))) :: .osl (x15 9).2 183 4 (pieceRows y.d.ps ++ [x.cells]) :: ((l1.eraseIdx k).map PPart.atom ++ H)) rfl ?_
      refine AQ.weaken (E' := [(7, .val s.2.2), (14, _), (15, _), (16, _)]) ⟨rfl, rfl, rfl, rfl, trivial⟩ ?_
      generalize (x15 9).2 = vn
      refine AQ.oslShape 1 rfl (fun A L C hv => ?_)
      subst hv
      refine AQ.oslR 0 rfl (show _ = ppRows (l1.set k (⟨⟨y.d.o, y.d.off, y.d.n + x.len, y.d.ps ++ [x]⟩, A, L, C⟩ : PPart)) from (pp_set (y := (⟨⟨y.d.o, y.d.off, y.d.n + x.len, y.d.ps ++ [x]⟩, A, L, C⟩ : PPart)) rfl).trans (by rw [List.set_set])) ?_
      try simp only [List.set_cons_zero, List.set_cons_succ]
      refine AQ.oslR 1 rfl (show _ = pieceRows (y.d.ps ++ [x]) by simp) ?_
      try simp only [List.set_cons_zero, List.set_cons_succ]
      refine AQ.permT [_] (perm_in PPart.atom (y := (⟨⟨y.d.o, y.d.off, y.d.n + x.len, y.d.ps ++ [x]⟩, A, L, C⟩ : PPart)) hk H) ?_
      refine AQ.block_n ?_
      refine AQ.then_n ?_
      refine AQ.region ?_
      refine AQ.add (.plain rfl) rfl rfl rfl (i64_id (by omega) (by omega)) ?_
      refine AQ.move (.plain rfl) rfl rfl ?_
      refine AQ.nil ?_
      exact AQ.again (Imm.le_refl _) (s.1 + 1, l1.set k (⟨⟨y.d.o, y.d.off, y.d.n + x.len, y.d.ps ++ [x]⟩, A, L, C⟩ : PPart), _) ⟨by simp only; omega, by simp only; rw [hl1]; exact grp_old hs.2.1 hx hk1 hy rfl, pb_step hs.2.2 (.inl hl1) (fun z hz => by rw [hl1] at hz; exact absurd (congrArg List.length hz) (by simp)) (by simp only [List.length_append, List.length_singleton]; omega)⟩ (by simp only; omega) ⟨rfl, rfl, rfl, rfl, trivial⟩ rfl
  · refine AQ.exit ?_
    refine AQ.then_e ?_
    refine AQ.then_e ?_
    refine AQ.block_hit ?_
    refine AQ.then_n ?_
    refine AQ.seq ?_
    refine AQ.region ?_
    refine AQ.move (.plain rfl) rfl rfl ?_
    refine AQ.callo (.plain rfl) rfl rfl en179 (sortCX s.2.1 s.2.2 _ (fun z hz => (hs.2.2.2 z hz).2.2.2) (by have := hs.2.2.1; omega)) (fun l2 => ?_)
    refine AQ.nil ?_
    refine AQ.permT [_] (((l2.2.1.map PPart.atom).symm).append_right H) ?_
    refine AQ.then_n ?_
    refine AQ.seq ?_
    refine AQ.region ?_
    refine AQ.move (.plain rfl) rfl rfl ?_
    refine AQ.assign (.plain rfl) rfl rfl ?_
    refine AQ.nil ?_
    refine AQ.then_n ?_
    refine AQ.ret ?_
    refine AQ.perm (List.perm_middle (l₁ := l2.1.map PPart.atom) (l₂ := H)).symm ?_
    refine AQ.freezeAll PPart.v 183 4 (fun x => pieceRows x.d.ps) l2.1 (fun J1 hJ1 hall => ?_)
    refine AQ.oslImp 0 rfl (rows' := partRows (l2.1.map PPart.d)) (by simp) (by intro r hr; obtain ⟨z, _, rfl⟩ := List.mem_map.1 hr; rfl) (fun J cs hJ h => pp_weak (fun z hz => AV.mono _ hJ (hall z hz)) h) ?_
    try simp only [List.set_cons_zero, List.set_cons_succ]
    refine AQ.oslR 0 rfl (show _ = partRows (partsL (pieces l off n)) from by rw [sorted_partsL (pieces_obj y0 y1 y2 y3) ((l2.2.1.map PPart.d).trans (by rw [hs.2.1, List.take_of_length_le (by omega)])) (List.pairwise_map.2 l2.2.2)]) ?_
    try simp only [List.set_cons_zero, List.set_cons_succ]
    refine AQ.freeze 0 rfl (fun J2 hJ2 hp2 => ?_)
    refine AQ.as (t := 6) rfl hp2 ?_
    exact AQ.done1 (Imm.le_trans hJ1 hJ2) Tryz.results105 rfl ⟨rfl, rfl⟩
end Go.Fx
set_option linter.unusedVariables false
set_option linter.unusedSimpArgs false
set_option maxRecDepth 100000
namespace Go.Fx
open Go Go.Proofs
theorem sumLen_take {L : List (List Op)} {k : Nat} {l : List Op} (h : L[k]? = some l) : ((L.take (k + 1)).flatten).length = ((L.take k).flatten).length + l.length := by
  rw [List.take_add_one, h]; simp
theorem flat_take {L : List (List Op)} {k : Nat} {l : List Op} (h : L[k]? = some l) : (L.take (k + 1)).flatten = (L.take k).flatten ++ l := by
  rw [List.take_add_one, h]; simp
theorem flat_le (L : List (List Op)) (h1 : L.length ≤ 100) (h2 : ∀ l ∈ L, l.length ≤ 1000) (k : Nat) : ((L.take k).flatten).length ≤ 1000 * k := by
  induction k with
  | zero => simp
  | succ k ih =>
    rcases Nat.lt_or_ge k L.length with h | h
    · obtain ⟨l, hl⟩ := lget h
      rw [sumLen_take hl]
      have := h2 l (List.mem_of_getElem? hl)
      omega
    · rw [List.take_of_length_le (by omega)]; rw [List.take_of_length_le h] at ih; omega

theorem growOps (n : Int) (H : List HA) (y0 : 0 ≤ n) (y1 : n ≤ 1000000) : AC Tryz.prog 197 [.val (.slice none 0 0), I n] (H) (fun r H' => ∃ v, r = .val v ∧ H' = .osl v 58 5 [] :: H) := by
  refine AC.enter Tryz.func197 rfl Tryz.ntmps197 rfl (fun I0 => ?_)
  refine AQ.seq ?_
  refine AQ.region ?_
  refine AQ.assign (.plain rfl) rfl rfl ?_
  refine AQ.nil ?_
  refine AQ.then_n ?_
  refine AQ.seq ?_
  refine AQ.seq ?_
  refine AQ.region ?_
  refine AQ.move (.plain rfl) rfl rfl ?_
  refine AQ.lss (.plain rfl) rfl rfl rfl ?_
  refine AQ.nil ?_
  refine AQ.then_n ?_
  refine AQ.cond_d rfl (fun h1 => ?_) (fun h1 => ?_)
  · refine AQ.region ?_
    omega
  · refine AQ.skip ?_
    refine AQ.then_n ?_
    refine AQ.seq ?_
    refine AQ.seq ?_
    refine AQ.region ?_
    refine AQ.move (.plain rfl) rfl rfl ?_
    refine AQ.move (.plain rfl) rfl rfl ?_
    refine AQ.capNil (.plain rfl) rfl rfl Tryz.underlying51 ?_
    refine AQ.move (.plain rfl) rfl rfl ?_
    refine AQ.lenNil (.plain rfl) rfl rfl Tryz.underlying51 ?_
    refine AQ.sub (.plain rfl) rfl rfl rfl (i64_id (by omega) (by omega)) ?_
    refine AQ.sub (.plain rfl) rfl rfl rfl (i64_id (by omega) (by omega)) ?_
    refine AQ.assign (.plain rfl) rfl rfl ?_
    refine AQ.nil ?_
    refine AQ.then_n ?_
    refine AQ.seq ?_
    refine AQ.region ?_
    refine AQ.move (.plain rfl) rfl rfl ?_
    refine AQ.gtr (.plain rfl) rfl rfl rfl ?_
    refine AQ.nil ?_
    refine AQ.then_n ?_
    refine AQ.cond_d rfl (fun h2 => ?_) (fun h2 => ?_)
    · refine AQ.region ?_
      refine AQ.move (.plain rfl) rfl rfl ?_
      refine AQ.move (.plain rfl) rfl rfl ?_
      refine AQ.capNil (.plain rfl) rfl rfl Tryz.underlying51 ?_
      refine AQ.cutNil (.plain rfl) rfl rfl rfl Tryz.underlying51 ag58 ?_
      refine AQ.move (.plain rfl) rfl rfl ?_
      refine AQ.appendMake (.plain rfl) rfl rfl rfl Tryz.underlying51 Tryz.underlying3 el58 rfl rfl zo58 rfl (by omega) (by omega) (fun v5 => ?_)
      refine AQ.move (.plain rfl) rfl rfl ?_
      refine AQ.lenNil (.plain rfl) rfl rfl Tryz.underlying51 ?_
      refine AQ.ocutTo (.plain rfl) rfl 0 rfl rfl rfl Tryz.underlying51 ag58 (by omega) (by omega) (fun v6 => ?_)
      try simp only [List.set_cons_zero, List.set_cons_succ]
      refine AQ.oslR 0 rfl (show _ = [] from rfl) ?_
      try simp only [List.set_cons_zero, List.set_cons_succ]
      refine AQ.assign (.plain rfl) rfl rfl ?_
      refine AQ.nil ?_
      refine AQ.then_n ?_
      refine AQ.seq ?_
      refine AQ.region ?_
      refine AQ.move (.plain rfl) rfl rfl ?_
      refine AQ.assign (.plain rfl) rfl rfl ?_
      refine AQ.nil ?_
      refine AQ.then_n ?_
      refine AQ.ret ?_
      exact AQ.done1 (Imm.le_refl _) Tryz.results197 rfl ⟨_, rfl, rfl⟩
    · refine AQ.skip ?_
      refine AQ.then_n ?_
      refine AQ.seq ?_
      refine AQ.region ?_
      refine AQ.move (.plain rfl) rfl rfl ?_
      refine AQ.assign (.plain rfl) rfl rfl ?_
      refine AQ.nil ?_
      refine AQ.then_n ?_
      refine AQ.ret ?_
      refine AQ.ownNil (A := none) 58 5 ?_
      exact AQ.done1 (Imm.le_refl _) Tryz.results197 rfl ⟨_, rfl, rfl⟩
theorem concatOps (L : List (List Op)) (H : List HA) (y0 : L.length ≤ 100) (y1 : ∀ l ∈ L, l.length ≤ 1000) : AC Tryz.prog 127 [.sl 1 (L.map fun l => [.sl 5 (opRows l)])] (H) (fun r H' => ∃ v, r = .val v ∧ H' = .osl v 58 5 (opRows L.flatten) :: H) := by
  refine AC.enter Tryz.func127 rfl Tryz.ntmps127 rfl (fun I0 => ?_)
  refine AQ.seq ?_
  refine AQ.region ?_
  refine AQ.assign (.plain rfl) rfl rfl ?_
  refine AQ.nil ?_
  refine AQ.then_n ?_
  refine AQ.seq ?_
  refine AQ.region ?_
  refine AQ.assign (.plain rfl) rfl rfl ?_
  refine AQ.nil ?_
  refine AQ.then_n ?_
  refine AQ.seq ?_
  refine AQ.seq ?_
  refine AQ.region ?_
  refine AQ.move (.plain rfl) rfl rfl ?_
  refine AQ.lenz (.plain rfl) (.sl rfl) rfl Tryz.underlying258 (by first | (simp only [List.length_map]; rfl) | rfl) ?_
  refine AQ.move (.plain rfl) rfl rfl ?_
  refine AQ.nil ?_
  refine AQ.then_n ?_
  refine AQ.block ?_
  refine AQ.loop (σ := Nat) (fun s => [(0, .sl 1 (L.map fun l => [.sl 5 (opRows l)])), (3, I (((L.take s).flatten).length : Int)), (9, .sl 1 (L.map fun l => [.sl 5 (opRows l)])), (10, I (L.length : Int)), (11, I (s : Int))]) (fun s => H) (fun s => s ≤ L.length) (fun s => L.length - s) 0 (by simp) ⟨rfl, rfl, rfl, rfl, rfl, trivial⟩ rfl (fun s hs => ?_)
  have hfl := flat_le L y0 y1 s
  refine AQ.seq ?_
  refine AQ.region ?_
  refine AQ.lss (.plain rfl) rfl rfl rfl ?_
  refine AQ.nil ?_
  refine AQ.then_n ?_
  refine AQ.seq ?_
  refine AQ.cond_d rfl (fun h1 => ?_) (fun h1 => ?_)
  · refine AQ.skip ?_
    refine AQ.then_n ?_
    refine AQ.seq ?_
    refine AQ.block ?_
    refine AQ.seq ?_
    refine AQ.region ?_
    obtain ⟨x, hx⟩ := lgetz (l := L) (z := (s : Int)) (by omega) (by omega)
    refine AQ.indexAddr (.plain rfl) rfl rfl rfl Tryz.underlying258 ag51 (by omega) (map_getz hx) ?_
    rw [Int.toNat_natCast] at hx
    have hxl := y1 x (List.mem_of_getElem? hx)
    refine AQ.load1 (.plain rfl) rfl rfl ag51 rfl ?_
    refine AQ.assign (.plain rfl) rfl rfl ?_
    refine AQ.nil ?_
    refine AQ.then_n ?_
    refine AQ.seq ?_
    refine AQ.region ?_
    refine AQ.move (.plain rfl) rfl rfl ?_
    refine AQ.move (.plain rfl) rfl rfl ?_
    refine AQ.lenz (.plain rfl) (.sl rfl) rfl Tryz.underlying51 (by first | (simp only [List.length_map]; rfl) | rfl) ?_
    refine AQ.add (.plain rfl) rfl rfl rfl (i64_id (by omega) (by omega)) ?_
    refine AQ.assign (.plain rfl) rfl rfl ?_
    refine AQ.nil ?_
    refine AQ.then_n ?_
    refine AQ.seq ?_
    refine AQ.region ?_
    refine AQ.move (.plain rfl) rfl rfl ?_
    refine AQ.lss (.plain rfl) rfl rfl rfl ?_
    refine AQ.nil ?_
    refine AQ.then_n ?_
    refine AQ.cond_d rfl (fun h2 => ?_) (fun h2 => ?_)
    · refine AQ.region ?_
      omega
    · refine AQ.skip ?_
      refine AQ.block_n ?_
      refine AQ.then_n ?_
      refine AQ.region ?_
      refine AQ.add (.plain rfl) rfl rfl rfl (i64_id (by omega) (by omega)) ?_
      refine AQ.move (.plain rfl) rfl rfl ?_
      refine AQ.nil ?_
      exact AQ.again (Imm.le_refl _) (s + 1) (by omega) (by omega) ⟨rfl, by rw [sumLen_take hx]; rfl, rfl, rfl, rfl, trivial⟩ rfl
  · refine AQ.exit ?_
    refine AQ.then_e ?_
    refine AQ.then_e ?_
    refine AQ.block_hit ?_
    refine AQ.then_n ?_
    refine AQ.seq ?_
    refine AQ.region ?_
    refine AQ.move (.plain rfl) rfl rfl ?_
    refine AQ.callo (.plain rfl) rfl rfl en197 (AC.weak (growOps (((L.take s).flatten).length : Int) _ (by omega) (by omega)) (by repeat (first | exact ImpL.nil | apply ImpL.same | apply ImpL.sl0))) (fun v3 => ?_)
    refine AQ.assign (.plain rfl) rfl rfl ?_
    refine AQ.nil ?_
    refine AQ.then_n ?_
    refine AQ.seq ?_
    refine AQ.seq ?_
    refine AQ.region ?_
    refine AQ.move (.plain rfl) rfl rfl ?_
    refine AQ.lenz (.plain rfl) (.sl rfl) rfl Tryz.underlying258 (by first | (simp only [List.length_map]; rfl) | rfl) ?_
    refine AQ.move (.plain rfl) rfl rfl ?_
    refine AQ.nil ?_
    refine AQ.then_n ?_
    refine AQ.block ?_
    refine AQ.loop (σ := Nat × Value) (fun s => [(6, .val s.2), (25, .sl 1 (L.map fun l => [.sl 5 (opRows l)])), (26, I (L.length : Int)), (27, I (s.1 : Int))]) (fun s => .osl s.2 58 5 (opRows (L.take s.1).flatten) :: H) (fun s => s.1 ≤ L.length) (fun s => L.length - s.1) (0, v3) (by simp) ⟨rfl, rfl, rfl, rfl, trivial⟩ rfl (fun s hs => ?_)
    have hfl := flat_le L y0 y1 s.1
    refine AQ.seq ?_
    refine AQ.region ?_
    refine AQ.lss (.plain rfl) rfl rfl rfl ?_
    refine AQ.nil ?_
    refine AQ.then_n ?_
    refine AQ.seq ?_
    refine AQ.cond_d rfl (fun h4 => ?_) (fun h4 => ?_)
    · refine AQ.skip ?_
      refine AQ.then_n ?_
      refine AQ.seq ?_
      refine AQ.block ?_
      refine AQ.seq ?_
      refine AQ.region ?_
      obtain ⟨x, hx⟩ := lgetz (l := L) (z := (s.1 : Int)) (by omega) (by omega)
      refine AQ.indexAddr (.plain rfl) rfl rfl rfl Tryz.underlying258 ag51 (by omega) (map_getz hx) ?_
      rw [Int.toNat_natCast] at hx
      have hxl := y1 x (List.mem_of_getElem? hx)
      refine AQ.load1 (.plain rfl) rfl rfl ag51 rfl ?_
      refine AQ.assign (.plain rfl) rfl rfl ?_
      refine AQ.nil ?_
      refine AQ.then_n ?_
      refine AQ.region ?_
      refine AQ.move (.plain rfl) rfl rfl ?_
      refine AQ.move (.plain rfl) rfl rfl ?_
      refine AQ.append (.plain rfl) rfl 0 rfl (.sl rfl) rfl Tryz.underlying51 el58 rfl rfl (by simp only [List.length_cons, List.length_nil, List.length_map, List.length_append, List.length_range]; omega) (fun v5 => ?_)
      try simp only [List.set_cons_zero, List.set_cons_succ]
      refine AQ.assign (.plain rfl) rfl rfl ?_
      refine AQ.nil ?_
      refine AQ.block_n ?_
      refine AQ.then_n ?_
      refine AQ.region ?_
      refine AQ.add (.plain rfl) rfl rfl rfl (i64_id (by omega) (by omega)) ?_
      refine AQ.move (.plain rfl) rfl rfl ?_
      refine AQ.nil ?_
      exact AQ.again (Imm.le_refl _) (s.1 + 1, _) (by simp only; omega) (by simp only; omega) ⟨rfl, rfl, rfl, rfl, trivial⟩ (by rw [flat_take hx]; simp only [List.map_append])
    · refine AQ.exit ?_
      refine AQ.then_e ?_
      refine AQ.then_e ?_
      refine AQ.block_hit ?_
      refine AQ.then_n ?_
      refine AQ.seq ?_
      refine AQ.region ?_
      refine AQ.move (.plain rfl) rfl rfl ?_
      refine AQ.assign (.plain rfl) rfl rfl ?_
      refine AQ.nil ?_
      refine AQ.then_n ?_
      refine AQ.ret ?_
      exact AQ.done1 (Imm.le_refl _) Tryz.results127 rfl ⟨_, rfl, by rw [List.take_of_length_le (by omega)]⟩
end Go.Fx
