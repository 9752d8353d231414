/- Rules for walks, pure facts of the program, contracts of its functions: SA SB SC SD SE SF. -/
import Derived.Test.YtkgboabmjahndaaGreatDoorMC
import Derived.Test.YtkgboabmjahndaaGreatDoorMX
set_option linter.unusedVariables false
set_option linter.unusedSimpArgs false
set_option maxRecDepth 100000
namespace Go.Fx
open Go Go.Proofs

theorem stripeCheck (l : Layout) (H : List HA)  : AC Tryz.prog 122 [.agg l.cells] (H) (fun r' H' => r' = (I (layoutErr l)) ∧ H' = H) := by
  refine AC.enter Tryz.func122 rfl Tryz.ntmps122 rfl (fun I0 => ?_)
  refine AQ.seq ?_
  refine AQ.region ?_
  refine AQ.boxA (.plain rfl) rfl rfl (fun b1 => ?_)
  refine AQ.assign (.plain rfl) rfl rfl ?_
  refine AQ.nil ?_
  refine AQ.then_n ?_
  refine AQ.seq ?_
  refine AQ.seq ?_
  refine AQ.region ?_
  refine AQ.fieldv (.plain rfl) rfl rfl fo37_0 rfl ?_
  refine AQ.loadv1 (.plain rfl) rfl 0 rfl rfl ag3 rfl ?_
  refine AQ.lss (.plain rfl) rfl rfl rfl ?_
  refine AQ.move (.plain rfl) rfl rfl ?_
  refine AQ.split (t := 6) rfl (fun h2 => ?_) (fun h2 => ?_)
  · refine AQ.off rfl rfl rfl rfl ?_
    refine AQ.off rfl rfl rfl rfl ?_
    refine AQ.off rfl rfl rfl rfl ?_
    refine AQ.pick_t (.plain rfl) rfl rfl rfl ?_
    refine AQ.move (.plain rfl) rfl rfl ?_
    refine AQ.off rfl rfl rfl rfl ?_
    refine AQ.off rfl rfl rfl rfl ?_
    refine AQ.off rfl rfl rfl rfl ?_
    refine AQ.pick_t (.plain rfl) rfl rfl rfl ?_
    refine AQ.move (.plain rfl) rfl rfl ?_
    refine AQ.off rfl rfl rfl rfl ?_
    refine AQ.off rfl rfl rfl rfl ?_
    refine AQ.off rfl rfl rfl rfl ?_
    refine AQ.off rfl rfl rfl rfl ?_
    refine AQ.off rfl rfl rfl rfl ?_
    refine AQ.pick_t (.plain rfl) rfl rfl rfl ?_
    refine AQ.move (.plain rfl) rfl rfl ?_
    refine AQ.off rfl rfl rfl rfl ?_
    refine AQ.off rfl rfl rfl rfl ?_
    refine AQ.off rfl rfl rfl rfl ?_
    refine AQ.pick_t (.plain rfl) rfl rfl rfl ?_
    refine AQ.move (.plain rfl) rfl rfl ?_
    refine AQ.off rfl rfl rfl rfl ?_
    refine AQ.off rfl rfl rfl rfl ?_
    refine AQ.off rfl rfl rfl rfl ?_
    refine AQ.off rfl rfl rfl rfl ?_
    refine AQ.off rfl rfl rfl rfl ?_
    refine AQ.off rfl rfl rfl rfl ?_
    refine AQ.pick_t (.plain rfl) rfl rfl rfl ?_
    refine AQ.nil ?_
    refine AQ.then_n ?_
    refine AQ.cond_t rfl ?_
    refine AQ.seq ?_
    refine AQ.region ?_
    refine AQ.assign (.plain rfl) rfl rfl ?_
    refine AQ.nil ?_
    refine AQ.then_n ?_
    refine AQ.ret ?_
    refine AQ.then_r ?_
    refine AQ.dropN 1 ?_
    refine AQ.eqH (H' := H) rfl ?_
    exact AQ.done1 (Imm.le_refl _) Tryz.results122 rfl ⟨(I_c (by unfold layoutErr; first | exact if_t (by unfold Layout.May; omega) | exact if_f (by unfold Layout.May; omega))), rfl⟩
  · refine AQ.fieldv (.on rfl rfl rfl) rfl rfl fo37_1 rfl ?_
    refine AQ.loadv1 (.on rfl rfl rfl) rfl 0 rfl rfl ag3 rfl ?_
    refine AQ.lss (.on rfl rfl rfl) rfl rfl rfl ?_
    refine AQ.pick_f (.plain rfl) rfl rfl rfl ?_
    refine AQ.move (.plain rfl) rfl rfl ?_
    refine AQ.split (t := 11) rfl (fun h3 => ?_) (fun h3 => ?_)
    · refine AQ.off rfl rfl rfl rfl ?_
      refine AQ.off rfl rfl rfl rfl ?_
      refine AQ.off rfl rfl rfl rfl ?_
      refine AQ.pick_t (.plain rfl) rfl rfl rfl ?_
      refine AQ.move (.plain rfl) rfl rfl ?_
      refine AQ.off rfl rfl rfl rfl ?_
      refine AQ.off rfl rfl rfl rfl ?_
      refine AQ.off rfl rfl rfl rfl ?_
      refine AQ.off rfl rfl rfl rfl ?_
      refine AQ.off rfl rfl rfl rfl ?_
      refine AQ.pick_t (.plain rfl) rfl rfl rfl ?_
      refine AQ.move (.plain rfl) rfl rfl ?_
      refine AQ.off rfl rfl rfl rfl ?_
      refine AQ.off rfl rfl rfl rfl ?_
      refine AQ.off rfl rfl rfl rfl ?_
      refine AQ.pick_t (.plain rfl) rfl rfl rfl ?_
      refine AQ.move (.plain rfl) rfl rfl ?_
      refine AQ.off rfl rfl rfl rfl ?_
      refine AQ.off rfl rfl rfl rfl ?_
      refine AQ.off rfl rfl rfl rfl ?_
      refine AQ.off rfl rfl rfl rfl ?_
      refine AQ.off rfl rfl rfl rfl ?_
      refine AQ.off rfl rfl rfl rfl ?_
      refine AQ.pick_t (.plain rfl) rfl rfl rfl ?_
      refine AQ.nil ?_
      refine AQ.then_n ?_
      refine AQ.cond_t rfl ?_
      refine AQ.seq ?_
      refine AQ.region ?_
      refine AQ.assign (.plain rfl) rfl rfl ?_
      refine AQ.nil ?_
      refine AQ.then_n ?_
      refine AQ.ret ?_
      refine AQ.then_r ?_
      refine AQ.dropN 1 ?_
      refine AQ.eqH (H' := H) rfl ?_
      exact AQ.done1 (Imm.le_refl _) Tryz.results122 rfl ⟨(I_c (by unfold layoutErr; first | exact if_t (by unfold Layout.May; omega) | exact if_f (by unfold Layout.May; omega))), rfl⟩
    · refine AQ.fieldv (.on rfl rfl rfl) rfl rfl fo37_1 rfl ?_
      refine AQ.loadv1 (.on rfl rfl rfl) rfl 0 rfl rfl ag3 rfl ?_
      refine AQ.gtr (.on rfl rfl rfl) rfl rfl rfl ?_
      refine AQ.pick_f (.plain rfl) rfl rfl rfl ?_
      refine AQ.move (.plain rfl) rfl rfl ?_
      refine AQ.split (t := 16) rfl (fun h4 => ?_) (fun h4 => ?_)
      · refine AQ.off rfl rfl rfl rfl ?_
        refine AQ.off rfl rfl rfl rfl ?_
        refine AQ.off rfl rfl rfl rfl ?_
        refine AQ.off rfl rfl rfl rfl ?_
        refine AQ.off rfl rfl rfl rfl ?_
        refine AQ.pick_t (.plain rfl) rfl rfl rfl ?_
        refine AQ.move (.plain rfl) rfl rfl ?_
        refine AQ.off rfl rfl rfl rfl ?_
        refine AQ.off rfl rfl rfl rfl ?_
        refine AQ.off rfl rfl rfl rfl ?_
        refine AQ.pick_t (.plain rfl) rfl rfl rfl ?_
        refine AQ.move (.plain rfl) rfl rfl ?_
        refine AQ.off rfl rfl rfl rfl ?_
        refine AQ.off rfl rfl rfl rfl ?_
        refine AQ.off rfl rfl rfl rfl ?_
        refine AQ.off rfl rfl rfl rfl ?_
        refine AQ.off rfl rfl rfl rfl ?_
        refine AQ.off rfl rfl rfl rfl ?_
        refine AQ.pick_t (.plain rfl) rfl rfl rfl ?_
        refine AQ.nil ?_
        refine AQ.then_n ?_
        refine AQ.cond_t rfl ?_
        refine AQ.seq ?_
        refine AQ.region ?_
        refine AQ.assign (.plain rfl) rfl rfl ?_
        refine AQ.nil ?_
        refine AQ.then_n ?_
        refine AQ.ret ?_
        refine AQ.then_r ?_
        refine AQ.dropN 1 ?_
        refine AQ.eqH (H' := H) rfl ?_
        exact AQ.done1 (Imm.le_refl _) Tryz.results122 rfl ⟨(I_c (by unfold layoutErr; first | exact if_t (by unfold Layout.May; omega) | exact if_f (by unfold Layout.May; omega))), rfl⟩
      · refine AQ.fieldv (.on rfl rfl rfl) rfl rfl fo37_2 rfl ?_
        refine AQ.loadv1 (.on rfl rfl rfl) rfl 0 rfl rfl ag3 rfl ?_
        refine AQ.fieldv (.on rfl rfl rfl) rfl rfl fo37_0 rfl ?_
        refine AQ.loadv1 (.on rfl rfl rfl) rfl 0 rfl rfl ag3 rfl ?_
        refine AQ.lss (.on rfl rfl rfl) rfl rfl rfl ?_
        refine AQ.pick_f (.plain rfl) rfl rfl rfl ?_
        refine AQ.move (.plain rfl) rfl rfl ?_
        refine AQ.split (t := 23) rfl (fun h5 => ?_) (fun h5 => ?_)
        · refine AQ.off rfl rfl rfl rfl ?_
          refine AQ.off rfl rfl rfl rfl ?_
          refine AQ.off rfl rfl rfl rfl ?_
          refine AQ.pick_t (.plain rfl) rfl rfl rfl ?_
          refine AQ.move (.plain rfl) rfl rfl ?_
          refine AQ.off rfl rfl rfl rfl ?_
          refine AQ.off rfl rfl rfl rfl ?_
          refine AQ.off rfl rfl rfl rfl ?_
          refine AQ.off rfl rfl rfl rfl ?_
          refine AQ.off rfl rfl rfl rfl ?_
          refine AQ.off rfl rfl rfl rfl ?_
          refine AQ.pick_t (.plain rfl) rfl rfl rfl ?_
          refine AQ.nil ?_
          refine AQ.then_n ?_
          refine AQ.cond_t rfl ?_
          refine AQ.seq ?_
          refine AQ.region ?_
          refine AQ.assign (.plain rfl) rfl rfl ?_
          refine AQ.nil ?_
          refine AQ.then_n ?_
          refine AQ.ret ?_
          refine AQ.then_r ?_
          refine AQ.dropN 1 ?_
          refine AQ.eqH (H' := H) rfl ?_
          exact AQ.done1 (Imm.le_refl _) Tryz.results122 rfl ⟨(I_c (by unfold layoutErr; first | exact if_t (by unfold Layout.May; omega) | exact if_f (by unfold Layout.May; omega))), rfl⟩
        · refine AQ.fieldv (.on rfl rfl rfl) rfl rfl fo37_2 rfl ?_
          refine AQ.loadv1 (.on rfl rfl rfl) rfl 0 rfl rfl ag3 rfl ?_
          refine AQ.gtr (.on rfl rfl rfl) rfl rfl rfl ?_
          refine AQ.pick_f (.plain rfl) rfl rfl rfl ?_
          refine AQ.move (.plain rfl) rfl rfl ?_
          refine AQ.split (t := 28) rfl (fun h6 => ?_) (fun h6 => ?_)
          · refine AQ.off rfl rfl rfl rfl ?_
            refine AQ.off rfl rfl rfl rfl ?_
            refine AQ.off rfl rfl rfl rfl ?_
            refine AQ.off rfl rfl rfl rfl ?_
            refine AQ.off rfl rfl rfl rfl ?_
            refine AQ.off rfl rfl rfl rfl ?_
            refine AQ.pick_t (.plain rfl) rfl rfl rfl ?_
            refine AQ.nil ?_
            refine AQ.then_n ?_
            refine AQ.cond_t rfl ?_
            refine AQ.seq ?_
            refine AQ.region ?_
            refine AQ.assign (.plain rfl) rfl rfl ?_
            refine AQ.nil ?_
            refine AQ.then_n ?_
            refine AQ.ret ?_
            refine AQ.then_r ?_
            refine AQ.dropN 1 ?_
            refine AQ.eqH (H' := H) rfl ?_
            exact AQ.done1 (Imm.le_refl _) Tryz.results122 rfl ⟨(I_c (by unfold layoutErr; first | exact if_t (by unfold Layout.May; omega) | exact if_f (by unfold Layout.May; omega))), rfl⟩
          · refine AQ.fieldv (.on rfl rfl rfl) rfl rfl fo37_2 rfl ?_
            refine AQ.loadv1 (.on rfl rfl rfl) rfl 0 rfl rfl ag3 rfl ?_
            refine AQ.fieldv (.on rfl rfl rfl) rfl rfl fo37_0 rfl ?_
            refine AQ.loadv1 (.on rfl rfl rfl) rfl 0 rfl rfl ag3 rfl ?_
            refine AQ.rem (.on rfl rfl rfl) rfl rfl rfl (by omega) (tmod_pos (by omega)) ?_
            refine AQ.neq (.on rfl rfl rfl) rfl rfl rfl ?_
            refine AQ.pick_f (.plain rfl) rfl rfl rfl ?_
            refine AQ.nil ?_
            refine AQ.then_n ?_
            refine AQ.cond_d rfl (fun h7 => ?_) (fun h7 => ?_)
            · refine AQ.seq ?_
              refine AQ.region ?_
              refine AQ.assign (.plain rfl) rfl rfl ?_
              refine AQ.nil ?_
              refine AQ.then_n ?_
              refine AQ.ret ?_
              refine AQ.then_r ?_
              refine AQ.dropN 1 ?_
              refine AQ.eqH (H' := H) rfl ?_
              exact AQ.done1 (Imm.le_refl _) Tryz.results122 rfl ⟨(I_c (by unfold layoutErr; first | exact if_t (by unfold Layout.May; omega) | exact if_f (by unfold Layout.May; omega))), rfl⟩
            · refine AQ.skip ?_
              refine AQ.then_n ?_
              refine AQ.seq ?_
              refine AQ.region ?_
              refine AQ.assign (.plain rfl) rfl rfl ?_
              refine AQ.nil ?_
              refine AQ.then_n ?_
              refine AQ.ret ?_
              refine AQ.dropN 1 ?_
              refine AQ.eqH (H' := H) rfl ?_
              exact AQ.done1 (Imm.le_refl _) Tryz.results122 rfl ⟨(I_c (by unfold layoutErr; first | exact if_t (by unfold Layout.May; omega) | exact if_f (by unfold Layout.May; omega))), rfl⟩
theorem ref03May (l : Layout) (H : List HA)  : AC Tryz.prog 32 [.agg l.cells] (H) (fun r' H' => r' = (B l.May) ∧ H' = H) := by
  refine AC.enter Tryz.func32 rfl Tryz.ntmps32 rfl (fun I0 => ?_)
  refine AQ.seq ?_
  refine AQ.region ?_
  refine AQ.boxA (.plain rfl) rfl rfl (fun b1 => ?_)
  refine AQ.assign (.plain rfl) rfl rfl ?_
  refine AQ.nil ?_
  refine AQ.then_n ?_
  refine AQ.seq ?_
  refine AQ.region ?_
  refine AQ.fieldv (.plain rfl) rfl rfl fo37_0 rfl ?_
  refine AQ.loadv1 (.plain rfl) rfl 0 rfl rfl ag3 rfl ?_
  refine AQ.geq (.plain rfl) rfl rfl rfl ?_
  refine AQ.move (.plain rfl) rfl rfl ?_
  refine AQ.split (t := 6) rfl (fun h2 => ?_) (fun h2 => ?_)
  · refine AQ.fieldv (.on rfl rfl rfl) rfl rfl fo37_1 rfl ?_
    refine AQ.loadv1 (.on rfl rfl rfl) rfl 0 rfl rfl ag3 rfl ?_
    refine AQ.geq (.on rfl rfl rfl) rfl rfl rfl ?_
    refine AQ.pick_t (.plain rfl) rfl rfl rfl ?_
    refine AQ.move (.plain rfl) rfl rfl ?_
    refine AQ.split (t := 11) rfl (fun h3 => ?_) (fun h3 => ?_)
    · refine AQ.fieldv (.on rfl rfl rfl) rfl rfl fo37_1 rfl ?_
      refine AQ.loadv1 (.on rfl rfl rfl) rfl 0 rfl rfl ag3 rfl ?_
      refine AQ.leq (.on rfl rfl rfl) rfl rfl rfl ?_
      refine AQ.pick_t (.plain rfl) rfl rfl rfl ?_
      refine AQ.move (.plain rfl) rfl rfl ?_
      refine AQ.split (t := 16) rfl (fun h4 => ?_) (fun h4 => ?_)
      · refine AQ.fieldv (.on rfl rfl rfl) rfl rfl fo37_2 rfl ?_
        refine AQ.loadv1 (.on rfl rfl rfl) rfl 0 rfl rfl ag3 rfl ?_
        refine AQ.fieldv (.on rfl rfl rfl) rfl rfl fo37_0 rfl ?_
        refine AQ.loadv1 (.on rfl rfl rfl) rfl 0 rfl rfl ag3 rfl ?_
        refine AQ.geq (.on rfl rfl rfl) rfl rfl rfl ?_
        refine AQ.pick_t (.plain rfl) rfl rfl rfl ?_
        refine AQ.move (.plain rfl) rfl rfl ?_
        refine AQ.split (t := 23) rfl (fun h5 => ?_) (fun h5 => ?_)
        · refine AQ.fieldv (.on rfl rfl rfl) rfl rfl fo37_2 rfl ?_
          refine AQ.loadv1 (.on rfl rfl rfl) rfl 0 rfl rfl ag3 rfl ?_
          refine AQ.leq (.on rfl rfl rfl) rfl rfl rfl ?_
          refine AQ.pick_t (.plain rfl) rfl rfl rfl ?_
          refine AQ.move (.plain rfl) rfl rfl ?_
          refine AQ.split (t := 28) rfl (fun h6 => ?_) (fun h6 => ?_)
          · refine AQ.fieldv (.on rfl rfl rfl) rfl rfl fo37_2 rfl ?_
            refine AQ.loadv1 (.on rfl rfl rfl) rfl 0 rfl rfl ag3 rfl ?_
            refine AQ.fieldv (.on rfl rfl rfl) rfl rfl fo37_0 rfl ?_
            refine AQ.loadv1 (.on rfl rfl rfl) rfl 0 rfl rfl ag3 rfl ?_
            refine AQ.rem (.on rfl rfl rfl) rfl rfl rfl (by omega) (tmod_pos (by omega)) ?_
            refine AQ.eql (.on rfl rfl rfl) rfl rfl rfl ?_
            refine AQ.pick_t (.plain rfl) rfl rfl rfl ?_
            refine AQ.assign (.plain rfl) rfl rfl ?_
            refine AQ.nil ?_
            refine AQ.then_n ?_
            refine AQ.ret ?_
            refine AQ.dropN 1 ?_
            refine AQ.eqH (H' := H) rfl ?_
            exact AQ.done1 (Imm.le_refl _) Tryz.results32 rfl ⟨(by first | exact B_t (by unfold Layout.May; omega) | exact B_f (by unfold Layout.May; omega) | exact B_c (by unfold Layout.May; omega)), rfl⟩
          · refine AQ.off rfl rfl rfl rfl ?_
            refine AQ.off rfl rfl rfl rfl ?_
            refine AQ.off rfl rfl rfl rfl ?_
            refine AQ.off rfl rfl rfl rfl ?_
            refine AQ.off rfl rfl rfl rfl ?_
            refine AQ.off rfl rfl rfl rfl ?_
            refine AQ.pick_f (.plain rfl) rfl rfl rfl ?_
            refine AQ.assign (.plain rfl) rfl rfl ?_
            refine AQ.nil ?_
            refine AQ.then_n ?_
            refine AQ.ret ?_
            refine AQ.dropN 1 ?_
            refine AQ.eqH (H' := H) rfl ?_
            exact AQ.done1 (Imm.le_refl _) Tryz.results32 rfl ⟨(by first | exact B_t (by unfold Layout.May; omega) | exact B_f (by unfold Layout.May; omega) | exact B_c (by unfold Layout.May; omega)), rfl⟩
        · refine AQ.off rfl rfl rfl rfl ?_
          refine AQ.off rfl rfl rfl rfl ?_
          refine AQ.off rfl rfl rfl rfl ?_
          refine AQ.pick_f (.plain rfl) rfl rfl rfl ?_
          refine AQ.move (.plain rfl) rfl rfl ?_
          refine AQ.off rfl rfl rfl rfl ?_
          refine AQ.off rfl rfl rfl rfl ?_
          refine AQ.off rfl rfl rfl rfl ?_
          refine AQ.off rfl rfl rfl rfl ?_
          refine AQ.off rfl rfl rfl rfl ?_
          refine AQ.off rfl rfl rfl rfl ?_
          refine AQ.pick_f (.plain rfl) rfl rfl rfl ?_
          refine AQ.assign (.plain rfl) rfl rfl ?_
          refine AQ.nil ?_
          refine AQ.then_n ?_
          refine AQ.ret ?_
          refine AQ.dropN 1 ?_
          refine AQ.eqH (H' := H) rfl ?_
          exact AQ.done1 (Imm.le_refl _) Tryz.results32 rfl ⟨(by first | exact B_t (by unfold Layout.May; omega) | exact B_f (by unfold Layout.May; omega) | exact B_c (by unfold Layout.May; omega)), rfl⟩
      · refine AQ.off rfl rfl rfl rfl ?_
        refine AQ.off rfl rfl rfl rfl ?_
        refine AQ.off rfl rfl rfl rfl ?_
        refine AQ.off rfl rfl rfl rfl ?_
        refine AQ.off rfl rfl rfl rfl ?_
        refine AQ.pick_f (.plain rfl) rfl rfl rfl ?_
        refine AQ.move (.plain rfl) rfl rfl ?_
        refine AQ.off rfl rfl rfl rfl ?_
        refine AQ.off rfl rfl rfl rfl ?_
        refine AQ.off rfl rfl rfl rfl ?_
        refine AQ.pick_f (.plain rfl) rfl rfl rfl ?_
        refine AQ.move (.plain rfl) rfl rfl ?_
        refine AQ.off rfl rfl rfl rfl ?_
        refine AQ.off rfl rfl rfl rfl ?_
        refine AQ.off rfl rfl rfl rfl ?_
        refine AQ.off rfl rfl rfl rfl ?_
        refine AQ.off rfl rfl rfl rfl ?_
        refine AQ.off rfl rfl rfl rfl ?_
        refine AQ.pick_f (.plain rfl) rfl rfl rfl ?_
        refine AQ.assign (.plain rfl) rfl rfl ?_
        refine AQ.nil ?_
        refine AQ.then_n ?_
        refine AQ.ret ?_
        refine AQ.dropN 1 ?_
        refine AQ.eqH (H' := H) rfl ?_
        exact AQ.done1 (Imm.le_refl _) Tryz.results32 rfl ⟨(by first | exact B_t (by unfold Layout.May; omega) | exact B_f (by unfold Layout.May; omega) | exact B_c (by unfold Layout.May; omega)), rfl⟩
    · refine AQ.off rfl rfl rfl rfl ?_
      refine AQ.off rfl rfl rfl rfl ?_
      refine AQ.off rfl rfl rfl rfl ?_
      refine AQ.pick_f (.plain rfl) rfl rfl rfl ?_
      refine AQ.move (.plain rfl) rfl rfl ?_
      refine AQ.off rfl rfl rfl rfl ?_
      refine AQ.off rfl rfl rfl rfl ?_
      refine AQ.off rfl rfl rfl rfl ?_
      refine AQ.off rfl rfl rfl rfl ?_
      refine AQ.off rfl rfl rfl rfl ?_
      refine AQ.pick_f (.plain rfl) rfl rfl rfl ?_
      refine AQ.move (.plain rfl) rfl rfl ?_
      refine AQ.off rfl rfl rfl rfl ?_
      refine AQ.off rfl rfl rfl rfl ?_
      refine AQ.off rfl rfl rfl rfl ?_
      refine AQ.pick_f (.plain rfl) rfl rfl rfl ?_
      refine AQ.move (.plain rfl) rfl rfl ?_
      refine AQ.off rfl rfl rfl rfl ?_
      refine AQ.off rfl rfl rfl rfl ?_
      refine AQ.off rfl rfl rfl rfl ?_
      refine AQ.off rfl rfl rfl rfl ?_
      refine AQ.off rfl rfl rfl rfl ?_
      refine AQ.off rfl rfl rfl rfl ?_
      refine AQ.pick_f (.plain rfl) rfl rfl rfl ?_
      refine AQ.assign (.plain rfl) rfl rfl ?_
      refine AQ.nil ?_
      refine AQ.then_n ?_
      refine AQ.ret ?_
      refine AQ.dropN 1 ?_
      refine AQ.eqH (H' := H) rfl ?_
      exact AQ.done1 (Imm.le_refl _) Tryz.results32 rfl ⟨(by first | exact B_t (by unfold Layout.May; omega) | exact B_f (by unfold Layout.May; omega) | exact B_c (by unfold Layout.May; omega)), rfl⟩
  · refine AQ.off rfl rfl rfl rfl ?_
    refine AQ.off rfl rfl rfl rfl ?_
    refine AQ.off rfl rfl rfl rfl ?_
    refine AQ.pick_f (.plain rfl) rfl rfl rfl ?_
    refine AQ.move (.plain rfl) rfl rfl ?_
    refine AQ.off rfl rfl rfl rfl ?_
    refine AQ.off rfl rfl rfl rfl ?_
    refine AQ.off rfl rfl rfl rfl ?_
    refine AQ.pick_f (.plain rfl) rfl rfl rfl ?_
    refine AQ.move (.plain rfl) rfl rfl ?_
    refine AQ.off rfl rfl rfl rfl ?_
    refine AQ.off rfl rfl rfl rfl ?_
    refine AQ.off rfl rfl rfl rfl ?_
    refine AQ.off rfl rfl rfl rfl ?_
    refine AQ.off rfl rfl rfl rfl ?_
    refine AQ.pick_f (.plain rfl) rfl rfl rfl ?_
    refine AQ.move (.plain rfl) rfl rfl ?_
    refine AQ.off rfl rfl rfl rfl ?_
    refine AQ.off rfl rfl rfl rfl ?_
    refine AQ.off rfl rfl rfl rfl ?_
    refine AQ.pick_f (.plain rfl) rfl rfl rfl ?_
    refine AQ.move (.plain rfl) rfl rfl ?_
    refine AQ.off rfl rfl rfl rfl ?_
    refine AQ.off rfl rfl rfl rfl ?_
    refine AQ.off rfl rfl rfl rfl ?_
    refine AQ.off rfl rfl rfl rfl ?_
    refine AQ.off rfl rfl rfl rfl ?_
    refine AQ.off rfl rfl rfl rfl ?_
    refine AQ.pick_f (.plain rfl) rfl rfl rfl ?_
    refine AQ.assign (.plain rfl) rfl rfl ?_
    refine AQ.nil ?_
    refine AQ.then_n ?_
    refine AQ.ret ?_
    refine AQ.dropN 1 ?_
    refine AQ.eqH (H' := H) rfl ?_
    exact AQ.done1 (Imm.le_refl _) Tryz.results32 rfl ⟨(by first | exact B_t (by unfold Layout.May; omega) | exact B_f (by unfold Layout.May; omega) | exact B_c (by unfold Layout.May; omega)), rfl⟩
theorem objmapRight (n : Int) (H : List HA)  : AC Tryz.prog 198 [I n] (H) (fun r' H' => r' = (B (right n)) ∧ H' = H) := by
  refine AC.enter Tryz.func198 rfl Tryz.ntmps198 rfl (fun I0 => ?_)
  refine AQ.seq ?_
  refine AQ.region ?_
  refine AQ.assign (.plain rfl) rfl rfl ?_
  refine AQ.nil ?_
  refine AQ.then_n ?_
  refine AQ.seq ?_
  refine AQ.region ?_
  refine AQ.move (.plain rfl) rfl rfl ?_
  refine AQ.geq (.plain rfl) rfl rfl rfl ?_
  refine AQ.move (.plain rfl) rfl rfl ?_
  refine AQ.split (t := 5) rfl (fun h1 => ?_) (fun h1 => ?_)
  · refine AQ.move (.on rfl rfl rfl) rfl rfl ?_
    refine AQ.leq (.on rfl rfl rfl) rfl rfl rfl ?_
    refine AQ.pick_t (.plain rfl) rfl rfl rfl ?_
    refine AQ.assign (.plain rfl) rfl rfl ?_
    refine AQ.nil ?_
    refine AQ.then_n ?_
    refine AQ.ret ?_
    exact AQ.done1 (Imm.le_refl _) Tryz.results198 rfl ⟨(by first | exact B_t (by unfold right; omega) | exact B_f (by unfold right; omega) | exact B_c (by unfold right; omega)), rfl⟩
  · refine AQ.off rfl rfl rfl rfl ?_
    refine AQ.off rfl rfl rfl rfl ?_
    refine AQ.pick_f (.plain rfl) rfl rfl rfl ?_
    refine AQ.assign (.plain rfl) rfl rfl ?_
    refine AQ.nil ?_
    refine AQ.then_n ?_
    refine AQ.ret ?_
    exact AQ.done1 (Imm.le_refl _) Tryz.results198 rfl ⟨(by first | exact B_t (by unfold right; omega) | exact B_f (by unfold right; omega) | exact B_c (by unfold right; omega)), rfl⟩
theorem wireWide (n : Int) (H : List HA)  : AC Tryz.prog 209 [I n] (H) (fun r' H' => r' = (I (wide n)) ∧ H' = H) := by
  refine AC.enter Tryz.func209 rfl Tryz.ntmps209 rfl (fun I0 => ?_)
  refine AQ.seq ?_
  refine AQ.region ?_
  refine AQ.assign (.plain rfl) rfl rfl ?_
  refine AQ.nil ?_
  refine AQ.then_n ?_
  refine AQ.seq ?_
  refine AQ.region ?_
  refine AQ.move (.plain rfl) rfl rfl ?_
  refine AQ.max2 (.plain rfl) rfl rfl rfl ?_
  refine AQ.min2 (.plain rfl) rfl rfl rfl ?_
  refine AQ.assign (.plain rfl) rfl rfl ?_
  refine AQ.nil ?_
  refine AQ.then_n ?_
  refine AQ.ret ?_
  exact AQ.done1 (Imm.le_refl _) Tryz.results209 rfl ⟨rfl, rfl⟩
theorem entryWithin (n lo hi : Int) (H : List HA)  : AC Tryz.prog 124 [I n, I lo, I hi] (H) (fun r' H' => r' = (B (lo ≤ n ∧ n ≤ hi)) ∧ H' = H) := by
  refine AC.enter Tryz.func124 rfl Tryz.ntmps124 rfl (fun I0 => ?_)
  refine AQ.seq ?_
  refine AQ.region ?_
  refine AQ.assign (.plain rfl) rfl rfl ?_
  refine AQ.nil ?_
  refine AQ.then_n ?_
  refine AQ.seq ?_
  refine AQ.region ?_
  refine AQ.move (.plain rfl) rfl rfl ?_
  refine AQ.move (.plain rfl) rfl rfl ?_
  refine AQ.geq (.plain rfl) rfl rfl rfl ?_
  refine AQ.move (.plain rfl) rfl rfl ?_
  refine AQ.split (t := 10) rfl (fun h1 => ?_) (fun h1 => ?_)
  · refine AQ.move (.on rfl rfl rfl) rfl rfl ?_
    refine AQ.move (.on rfl rfl rfl) rfl rfl ?_
    refine AQ.leq (.on rfl rfl rfl) rfl rfl rfl ?_
    refine AQ.pick_t (.plain rfl) rfl rfl rfl ?_
    refine AQ.assign (.plain rfl) rfl rfl ?_
    refine AQ.nil ?_
    refine AQ.then_n ?_
    refine AQ.ret ?_
    exact AQ.done1 (Imm.le_refl _) Tryz.results124 rfl ⟨by first | exact B_t (by omega) | exact B_f (by omega) | exact B_c (by omega), rfl⟩
  · refine AQ.off rfl rfl rfl rfl ?_
    refine AQ.off rfl rfl rfl rfl ?_
    refine AQ.off rfl rfl rfl rfl ?_
    refine AQ.pick_f (.plain rfl) rfl rfl rfl ?_
    refine AQ.assign (.plain rfl) rfl rfl ?_
    refine AQ.nil ?_
    refine AQ.then_n ?_
    refine AQ.ret ?_
    exact AQ.done1 (Imm.le_refl _) Tryz.results124 rfl ⟨by first | exact B_t (by omega) | exact B_f (by omega) | exact B_c (by omega), rfl⟩
end Go.Fx
set_option linter.unusedVariables false
set_option linter.unusedSimpArgs false
set_option maxRecDepth 100000
namespace Go.Fx
open Go Go.Proofs

theorem ref03place (l : Layout) (off : Int) (H : List HA) (y0 : l.May) (y1 : 0 ≤ off) (y2 : off ≤ 2 ^ 42) : AC Tryz.prog 215 [.agg l.cells, I off] (H) (fun r' H' => r' = (.tup [I (placeO l off), I (placeK l off)]) ∧ H' = H) := by
  refine AC.enter Tryz.func215 rfl Tryz.ntmps215 rfl (fun I0 => ?_)
  have f := placeFacts y0 y1
  obtain ⟨f1, f2, f3, f4, f5, f6, f7, f8, f9, f10⟩ := f
  obtain ⟨q1, q2, q3, q4, q5, q6⟩ := y0
  refine AQ.seq ?_
  refine AQ.region ?_
  refine AQ.boxA (.plain rfl) rfl rfl (fun b1 => ?_)
  refine AQ.assign (.plain rfl) rfl rfl ?_
  refine AQ.assign (.plain rfl) rfl rfl ?_
  refine AQ.nil ?_
  refine AQ.then_n ?_
  refine AQ.seq ?_
  refine AQ.region ?_
  refine AQ.move (.plain rfl) rfl rfl ?_
  refine AQ.fieldv (.plain rfl) rfl rfl fo37_0 rfl ?_
  refine AQ.loadv1 (.plain rfl) rfl 0 rfl rfl ag3 rfl ?_
  refine AQ.quo (.plain rfl) rfl rfl rfl (by omega) (tdiv_pos (by omega) (by omega) (by omega)) ?_
  refine AQ.assign (.plain rfl) rfl rfl ?_
  refine AQ.nil ?_
  refine AQ.then_n ?_
  refine AQ.seq ?_
  refine AQ.region ?_
  refine AQ.fieldv (.plain rfl) rfl rfl fo37_2 rfl ?_
  refine AQ.loadv1 (.plain rfl) rfl 0 rfl rfl ag3 rfl ?_
  refine AQ.fieldv (.plain rfl) rfl rfl fo37_0 rfl ?_
  refine AQ.loadv1 (.plain rfl) rfl 0 rfl rfl ag3 rfl ?_
  refine AQ.quo (.plain rfl) rfl rfl rfl (by omega) (tdiv_pos (by omega) (by omega) (by omega)) ?_
  refine AQ.assign (.plain rfl) rfl rfl ?_
  refine AQ.nil ?_
  refine AQ.then_n ?_
  refine AQ.seq ?_
  refine AQ.region ?_
  refine AQ.move (.plain rfl) rfl rfl ?_
  refine AQ.move (.plain rfl) rfl rfl ?_
  refine AQ.fieldv (.plain rfl) rfl rfl fo37_1 rfl ?_
  refine AQ.loadv1 (.plain rfl) rfl 0 rfl rfl ag3 rfl ?_
  refine AQ.mul (.plain rfl) rfl rfl rfl (i64_id (by omega) (by omega)) ?_
  refine AQ.rem (.plain rfl) rfl rfl rfl (by omega) (tmod_pos (by omega)) ?_
  refine AQ.assign (.plain rfl) rfl rfl ?_
  refine AQ.nil ?_
  refine AQ.then_n ?_
  refine AQ.seq ?_
  refine AQ.weaken (E' := [(0, _), (1, _), (2, _), (6, _), (7, _), (8, _)]) ⟨rfl, rfl, rfl, rfl, rfl, rfl, trivial⟩ ?_
  refine AQ.draw (F0 := _) [.fix none none _] mixed rfl (
    .cons (.fix 24 [] [] [] _) (fun xs E' F Q' k => AQ.move (.plain rfl) rfl rfl (AQ.nil (k (0, undef)))) <|
    .cons (.fix 25 [] [] [] _) (fun xs E' F Q' k => AQ.move (.plain rfl) rfl rfl (AQ.nil (k (0, undef)))) <|
    .cons (.fix 26 [] [] [] _) (fun xs E' F Q' k => AQ.fieldv (.plain rfl) rfl rfl fo37_1 rfl (AQ.nil (k (0, undef)))) <|
    .cons (.fix 27 [2] [2] [0] _) (fun xs E' F Q' k => AQ.loadv1 (.plain rfl) rfl 0 rfl rfl ag3 rfl (AQ.nil (k (0, undef)))) <|
    .cons (.fix 28 [1, 2, 3] [1, 3] [] _) (fun xs E' F Q' k => AQ.mul (.plain rfl) rfl rfl rfl (i64_id (by omega) (by omega)) (AQ.nil (k (0, undef)))) <|
    .cons (.fix 29 [0, 1, 2, 3, 4] [0, 4] [] _) (fun xs E' F Q' k => AQ.quo (.plain rfl) rfl rfl rfl (by omega) (tdiv_pos (by omega) (by omega) (by omega)) (AQ.nil (k (0, undef)))) <|
    .cons (.fix 30 [] [] [] _) (fun xs E' F Q' k => AQ.fieldv (.plain rfl) rfl rfl fo37_1 rfl (AQ.nil (k (0, undef)))) <|
    .cons (.fix 31 [6] [6] [0] _) (fun xs E' F Q' k => AQ.loadv1 (.plain rfl) rfl 0 rfl rfl ag3 rfl (AQ.nil (k (0, undef)))) <|
    .cons (.fix 32 [0, 1, 2, 3, 4, 5, 6, 7] [5, 7] [] _) (fun xs E' F Q' k => AQ.mul (.plain rfl) rfl rfl rfl (i64_id (by omega) (by omega)) (AQ.nil (k (0, undef)))) <|
    .cons (.fix 33 [] [] [] _) (fun xs E' F Q' k => AQ.move (.plain rfl) rfl rfl (AQ.nil (k (0, undef)))) <|
    .cons (.fix 34 [] [] [] _) (fun xs E' F Q' k => AQ.fieldv (.plain rfl) rfl rfl fo37_1 rfl (AQ.nil (k (0, undef)))) <|
    .cons (.fix 35 [10] [10] [0] _) (fun xs E' F Q' k => AQ.loadv1 (.plain rfl) rfl 0 rfl rfl ag3 rfl (AQ.nil (k (0, undef)))) <|
    .cons (.fix 36 [9, 10, 11] [9, 11] [] _) (fun xs E' F Q' k => AQ.rem (.plain rfl) rfl rfl rfl (by omega) (tmod_pos (by omega)) (AQ.nil (k (0, undef)))) <|
    .cons (.fix 37 [0, 1, 2, 3, 4, 5, 6, 7, 8, 9, 10, 11, 12] [8, 12] [] _) (fun xs E' F Q' k => AQ.add (.plain rfl) rfl rfl rfl (i64_id (by omega) (by omega)) (AQ.nil (k (0, undef)))) <|
    .cons (.fix 38 [] [] [] _) (fun xs E' F Q' k => AQ.move (.plain rfl) rfl rfl (AQ.nil (k (0, undef)))) <|
    .cons (.fix 39 [] [] [] _) (fun xs E' F Q' k => AQ.fieldv (.plain rfl) rfl rfl fo37_1 rfl (AQ.nil (k (0, undef)))) <|
    .cons (.fix 40 [15] [15] [0] _) (fun xs E' F Q' k => AQ.loadv1 (.plain rfl) rfl 0 rfl rfl ag3 rfl (AQ.nil (k (0, undef)))) <|
    .cons (.fix 41 [14, 15, 16] [14, 16] [] _) (fun xs E' F Q' k => AQ.quo (.plain rfl) rfl rfl rfl (by omega) (tdiv_pos (by omega) (by omega) (by omega)) (AQ.nil (k (0, undef)))) <|
    .cons (.fix 42 [] [] [] _) (fun xs E' F Q' k => AQ.fieldv (.plain rfl) rfl rfl fo37_0 rfl (AQ.nil (k (0, undef)))) <|
    .cons (.fix 43 [18] [18] [0] _) (fun xs E' F Q' k => AQ.loadv1 (.plain rfl) rfl 0 rfl rfl ag3 rfl (AQ.nil (k (0, undef)))) <|
    .cons (.fix 44 [14, 15, 16, 17, 18, 19] [17, 19] [] _) (fun xs E' F Q' k => AQ.mul (.plain rfl) rfl rfl rfl (i64_id (by omega) (by omega)) (AQ.nil (k (0, undef)))) <|
    .cons (.fix 45 [] [] [] _) (fun xs E' F Q' k => AQ.move (.plain rfl) rfl rfl (AQ.nil (k (0, undef)))) <|
    .cons (.fix 46 [] [] [] _) (fun xs E' F Q' k => AQ.fieldv (.plain rfl) rfl rfl fo37_0 rfl (AQ.nil (k (0, undef)))) <|
    .cons (.fix 47 [22] [22] [0] _) (fun xs E' F Q' k => AQ.loadv1 (.plain rfl) rfl 0 rfl rfl ag3 rfl (AQ.nil (k (0, undef)))) <|
    .cons (.fix 48 [21, 22, 23] [21, 23] [] _) (fun xs E' F Q' k => AQ.rem (.plain rfl) rfl rfl rfl (by omega) (tmod_pos (by omega)) (AQ.nil (k (0, undef)))) <|
    .cons (.fix 49 [14, 15, 16, 17, 18, 19, 20, 21, 22, 23, 24] [20, 24] [] _) (fun xs E' F Q' k => AQ.add (.plain rfl) rfl rfl rfl (i64_id (by omega) (by omega)) (AQ.nil (k (0, undef)))) <|
    .cons (.fix 4 [0, 1, 2, 3, 4, 5, 6, 7, 8, 9, 10, 11, 12, 13] [13] [] _) (fun xs E' F Q' k => AQ.assign (.plain rfl) rfl rfl (AQ.nil (k (0, undef)))) <|
    .cons (.fix 5 [0, 1, 2, 3, 4, 5, 6, 7, 8, 9, 10, 11, 12, 13, 14, 15, 16, 17, 18, 19, 20, 21, 22, 23, 24, 25, 26] [25] [] _) (fun xs E' F Q' k => AQ.assign (.plain rfl) rfl rfl (AQ.nil (k (0, undef)))) <|
    .nil) (by kernel_rfl) (by kernel_rfl) (fun x2 => ?_)
  refine AQ.then_n ?_
  refine AQ.ret ?_
  refine AQ.dropN 1 ?_
  refine AQ.eqH (H' := H) rfl ?_
  exact AQ.doneN (ts := [4, 5]) (Imm.le_refl _) Tryz.results215 rfl rfl ⟨rfl, rfl⟩
theorem objmapGet (m : List Int) (i : Int) (H : List HA)  : AC Tryz.prog 131 [ints m, I i] (H) (fun r' H' => r' = (I (mget m i)) ∧ H' = H) := by
  refine AC.enter Tryz.func131 rfl Tryz.ntmps131 rfl (fun I0 => ?_)
  refine AQ.seq ?_
  refine AQ.region ?_
  refine AQ.assign (.plain rfl) rfl rfl ?_
  refine AQ.nil ?_
  refine AQ.then_n ?_
  refine AQ.seq ?_
  refine AQ.seq ?_
  refine AQ.region ?_
  refine AQ.move (.plain rfl) rfl rfl ?_
  refine AQ.lss (.plain rfl) rfl rfl rfl ?_
  refine AQ.move (.plain rfl) rfl rfl ?_
  refine AQ.split (t := 7) rfl (fun h1 => ?_) (fun h1 => ?_)
  · refine AQ.off rfl rfl rfl rfl ?_
    refine AQ.off rfl rfl rfl rfl ?_
    refine AQ.off rfl rfl rfl rfl ?_
    refine AQ.off rfl rfl rfl rfl ?_
    refine AQ.off rfl rfl rfl rfl ?_
    refine AQ.pick_t (.plain rfl) rfl rfl rfl ?_
    refine AQ.move (.plain rfl) rfl rfl ?_
    refine AQ.off rfl rfl rfl rfl ?_
    refine AQ.off rfl rfl rfl rfl ?_
    refine AQ.off rfl rfl rfl rfl ?_
    refine AQ.off rfl rfl rfl rfl ?_
    refine AQ.off rfl rfl rfl rfl ?_
    refine AQ.off rfl rfl rfl rfl ?_
    refine AQ.pick_t (.plain rfl) rfl rfl rfl ?_
    refine AQ.nil ?_
    refine AQ.then_n ?_
    refine AQ.cond_t rfl ?_
    refine AQ.seq ?_
    refine AQ.region ?_
    refine AQ.assign (.plain rfl) rfl rfl ?_
    refine AQ.nil ?_
    refine AQ.then_n ?_
    refine AQ.ret ?_
    refine AQ.then_r ?_
    exact AQ.done1 (Imm.le_refl _) Tryz.results131 rfl ⟨(I_c (by unfold mget; first | exact if_f (by omega) | (exact if_f (fun hh => by rw [getD_of hx] at hh; exact absurd hh.2.2.2 (by assumption))) | (rw [getD_of hx]; exact if_t ⟨by omega, by omega, by omega, by first | assumption | exact Decidable.not_not.1 (by assumption)⟩))), rfl⟩
  · refine AQ.move (.on rfl rfl rfl) rfl rfl ?_
    refine AQ.move (.on rfl rfl rfl) rfl rfl ?_
    refine AQ.lenz (.on rfl rfl rfl) (.sl rfl) rfl Tryz.underlying38 (by first | (simp only [List.length_map]; rfl) | rfl) ?_
    refine AQ.min2 (.on rfl rfl rfl) rfl rfl rfl ?_
    refine AQ.geq (.on rfl rfl rfl) rfl rfl rfl ?_
    refine AQ.pick_f (.plain rfl) rfl rfl rfl ?_
    refine AQ.move (.plain rfl) rfl rfl ?_
    refine AQ.split (t := 14) rfl (fun h2 => ?_) (fun h2 => ?_)
    · refine AQ.off rfl rfl rfl rfl ?_
      refine AQ.off rfl rfl rfl rfl ?_
      refine AQ.off rfl rfl rfl rfl ?_
      refine AQ.off rfl rfl rfl rfl ?_
      refine AQ.off rfl rfl rfl rfl ?_
      refine AQ.off rfl rfl rfl rfl ?_
      refine AQ.pick_t (.plain rfl) rfl rfl rfl ?_
      refine AQ.nil ?_
      refine AQ.then_n ?_
      refine AQ.cond_t rfl ?_
      refine AQ.seq ?_
      refine AQ.region ?_
      refine AQ.assign (.plain rfl) rfl rfl ?_
      refine AQ.nil ?_
      refine AQ.then_n ?_
      refine AQ.ret ?_
      refine AQ.then_r ?_
      exact AQ.done1 (Imm.le_refl _) Tryz.results131 rfl ⟨(I_c (by unfold mget; first | exact if_f (by omega) | (exact if_f (fun hh => by rw [getD_of hx] at hh; exact absurd hh.2.2.2 (by assumption))) | (rw [getD_of hx]; exact if_t ⟨by omega, by omega, by omega, by first | assumption | exact Decidable.not_not.1 (by assumption)⟩))), rfl⟩
    · refine AQ.move (.on rfl rfl rfl) rfl rfl ?_
      refine AQ.move (.on rfl rfl rfl) rfl rfl ?_
      obtain ⟨x, hx⟩ := lgetz (l := m) (z := i) (by omega) (by omega)
      refine AQ.indexAddr (.on rfl rfl rfl) rfl rfl rfl Tryz.underlying38 ag3 (by omega) (intRows_getz hx) ?_
      refine AQ.load1 (.on rfl rfl rfl) rfl rfl ag3 rfl ?_
      refine AQ.callf (.on rfl rfl rfl) rfl rfl en198 (objmapRight _ _) ?_
      refine AQ.not_d (.on rfl rfl rfl) rfl rfl ?_
      refine AQ.pick_f (.plain rfl) rfl rfl rfl ?_
      refine AQ.nil ?_
      refine AQ.then_n ?_
      refine AQ.cond_d rfl (fun h3 => ?_) (fun h3 => ?_)
      · refine AQ.seq ?_
        refine AQ.region ?_
        refine AQ.assign (.plain rfl) rfl rfl ?_
        refine AQ.nil ?_
        refine AQ.then_n ?_
        refine AQ.ret ?_
        refine AQ.then_r ?_
        exact AQ.done1 (Imm.le_refl _) Tryz.results131 rfl ⟨(I_c (by unfold mget; first | exact if_f (by omega) | (exact if_f (fun hh => by rw [getD_of hx] at hh; exact absurd hh.2.2.2 (by assumption))) | (rw [getD_of hx]; exact if_t ⟨by omega, by omega, by omega, by first | assumption | exact Decidable.not_not.1 (by assumption)⟩))), rfl⟩
      · refine AQ.skip ?_
        refine AQ.then_n ?_
        refine AQ.seq ?_
        refine AQ.region ?_
        refine AQ.move (.plain rfl) rfl rfl ?_
        refine AQ.move (.plain rfl) rfl rfl ?_
        refine AQ.indexAddr (.plain rfl) rfl rfl rfl Tryz.underlying38 ag3 (by omega) (intRows_getz hx) ?_
        refine AQ.load1 (.plain rfl) rfl rfl ag3 rfl ?_
        refine AQ.assign (.plain rfl) rfl rfl ?_
        refine AQ.nil ?_
        refine AQ.then_n ?_
        refine AQ.ret ?_
        exact AQ.done1 (Imm.le_refl _) Tryz.results131 rfl ⟨(I_c (by unfold mget; first | exact if_f (by omega) | (exact if_f (fun hh => by rw [getD_of hx] at hh; exact absurd hh.2.2.2 (by assumption))) | (rw [getD_of hx]; exact if_t ⟨by omega, by omega, by omega, by first | assumption | exact Decidable.not_not.1 (by assumption)⟩))), rfl⟩
theorem objmapClean (v : Value) (l : List Int) (H : List HA)  : AC Tryz.prog 200 [.val v] ((.osl v 3 1 (intRows l) :: H)) (fun r H' => ∃ v', r = .val v' ∧ H' = .osl v' 3 1 (intRows (cleanL l)) :: H) := by
  refine AC.enter Tryz.func200 rfl Tryz.ntmps200 rfl (fun I0 => ?_)
  refine AQ.oslB 0 rfl (fun z1 => ?_)
  simp only [List.length_map] at z1
  refine AQ.seq ?_
  refine AQ.region ?_
  refine AQ.assign (.plain rfl) rfl rfl ?_
  refine AQ.nil ?_
  refine AQ.then_n ?_
  refine AQ.seq ?_
  refine AQ.region ?_
  refine AQ.move (.plain rfl) rfl rfl ?_
  refine AQ.lenz (.plain rfl) (.osl rfl 0 rfl) rfl Tryz.underlying38 (by first | (simp only [List.length_map]; rfl) | rfl) ?_
  refine AQ.assign (.plain rfl) rfl rfl ?_
  refine AQ.nil ?_
  refine AQ.then_n ?_
  refine AQ.seq ?_
  refine AQ.block ?_
  refine AQ.loop (σ := Int) (fun s => [(0, .val v), (3, I s)]) (fun s => .osl v 3 1 (intRows l) :: H) (fun s => 0 ≤ s ∧ s ≤ (l.length : Int) ∧ trim l s.toNat = cleanL l) (fun s => s.toNat) (l.length : Int) ⟨by omega, by omega, rfl⟩ ⟨rfl, rfl, trivial⟩ rfl (fun s hs => ?_)
  refine AQ.seq ?_
  refine AQ.seq ?_
  refine AQ.region ?_
  refine AQ.move (.plain rfl) rfl rfl ?_
  refine AQ.gtr (.plain rfl) rfl rfl rfl ?_
  refine AQ.move (.plain rfl) rfl rfl ?_
  refine AQ.split (t := 8) rfl (fun h1 => ?_) (fun h1 => ?_)
  · refine AQ.move (.on rfl rfl rfl) rfl rfl ?_
    refine AQ.move (.on rfl rfl rfl) rfl rfl ?_
    refine AQ.sub (.on rfl rfl rfl) rfl rfl rfl (i64_id (by omega) (by omega)) ?_
    obtain ⟨x, hx⟩ := lgetz (l := l) (z := (s - 1)) (by omega) (by omega)
    refine AQ.indexo (.on rfl rfl rfl) rfl 0 rfl rfl rfl Tryz.underlying38 ag3 (by omega) (by simp only [List.length_map]; omega) ?_
    refine AQ.loado1 (.on rfl rfl rfl) rfl 0 rfl _ 0 rfl (intRows_getz hx) rfl rfl ag3  ?_
    refine AQ.eql (.on rfl rfl rfl) rfl rfl rfl ?_
    refine AQ.pick_t (.plain rfl) rfl rfl rfl ?_
    refine AQ.nil ?_
    refine AQ.then_n ?_
    refine AQ.cond_d rfl (fun h2 => ?_) (fun h2 => ?_)
    · refine AQ.skip ?_
      refine AQ.then_n ?_
      refine AQ.block ?_
      refine AQ.region ?_
      refine AQ.move (.plain rfl) rfl rfl ?_
      refine AQ.sub (.plain rfl) rfl rfl rfl (i64_id (by omega) (by omega)) ?_
      refine AQ.assign (.plain rfl) rfl rfl ?_
      refine AQ.nil ?_
      refine AQ.block_n ?_
      exact AQ.again (Imm.le_refl _) (s - 1) ⟨by omega, by omega, by rw [← hs.2.2, show s.toNat = (s - 1).toNat + 1 by omega, trim, if_pos (by rw [getD_of hx]; assumption)]⟩ (by omega) ⟨rfl, rfl, trivial⟩ rfl
    · refine AQ.exit ?_
      refine AQ.then_e ?_
      refine AQ.then_e ?_
      refine AQ.block_hit ?_
      refine AQ.then_n ?_
      refine AQ.seq ?_
      refine AQ.region ?_
      refine AQ.move (.plain rfl) rfl rfl ?_
      refine AQ.move (.plain rfl) rfl rfl ?_
      refine AQ.move (.plain rfl) rfl rfl ?_
      refine AQ.ocut3 (.plain rfl) rfl 0 rfl rfl rfl rfl Tryz.underlying38 ag3 (by omega) (by simp only [List.length_map]; omega) (fun v3 => ?_)
      try simp only [List.set_cons_zero, List.set_cons_succ]
      rw [intRows_take]
      refine AQ.assign (.plain rfl) rfl rfl ?_
      refine AQ.nil ?_
      refine AQ.then_n ?_
      refine AQ.ret ?_
      exact AQ.done1 (Imm.le_refl _) Tryz.results200 rfl ⟨_, rfl, by rw [← hs.2.2, trim_stop (by first | exact .inl (by omega) | exact .inr (by rw [show s.toNat - 1 = (s - 1).toNat by omega, getD_of hx]; assumption))]⟩
  · refine AQ.off rfl rfl rfl rfl ?_
    refine AQ.off rfl rfl rfl rfl ?_
    refine AQ.off rfl rfl rfl rfl ?_
    refine AQ.off rfl rfl rfl rfl ?_
    refine AQ.off rfl rfl rfl rfl ?_
    refine AQ.off rfl rfl rfl rfl ?_
    refine AQ.pick_f (.plain rfl) rfl rfl rfl ?_
    refine AQ.nil ?_
    refine AQ.then_n ?_
    refine AQ.cond_f rfl ?_
    refine AQ.exit ?_
    refine AQ.then_e ?_
    refine AQ.then_e ?_
    refine AQ.block_hit ?_
    refine AQ.then_n ?_
    refine AQ.seq ?_
    refine AQ.region ?_
    refine AQ.move (.plain rfl) rfl rfl ?_
    refine AQ.move (.plain rfl) rfl rfl ?_
    refine AQ.move (.plain rfl) rfl rfl ?_
    refine AQ.ocut3 (.plain rfl) rfl 0 rfl rfl rfl rfl Tryz.underlying38 ag3 (by omega) (by simp only [List.length_map]; omega) (fun v4 => ?_)
    try simp only [List.set_cons_zero, List.set_cons_succ]
    rw [intRows_take]
    refine AQ.assign (.plain rfl) rfl rfl ?_
    refine AQ.nil ?_
    refine AQ.then_n ?_
    refine AQ.ret ?_
    exact AQ.done1 (Imm.le_refl _) Tryz.results200 rfl ⟨_, rfl, by rw [← hs.2.2, trim_stop (by first | exact .inl (by omega) | exact .inr (by rw [show s.toNat - 1 = (s - 1).toNat by omega, getD_of hx]; assumption))]⟩
theorem objmapEach (n : Int) (g : Nat) (first cap : List Value) (f : Nat → Int) (K : List HA) (H : List HA) (y0 : 0 ≤ n) (y1 : n ≤ 4096) (y2 : Enters Tryz.prog g) (y3 : ∀ (i : Nat) (H : List HA), (i : Int) < n → AC Tryz.prog g (first.map .val ++ [I i] ++ cap.map .val) (K ++ H) (fun r H' => r = I (f i) ∧ H' = K ++ H)) : AC Tryz.prog 201 [I n, .val (.func (.func g) first.toArray cap.toArray)] ((K ++ H)) (fun r H' => ∃ v, r = .val v ∧ H' = .osl v 3 1 (intRows ((List.range n.toNat).map f)) :: (K ++ H)) := by
  refine AC.enter Tryz.func201 rfl Tryz.ntmps201 rfl (fun I0 => ?_)
  refine AQ.seq ?_
  refine AQ.region ?_
  refine AQ.assign (.plain rfl) rfl rfl ?_
  refine AQ.nil ?_
  refine AQ.then_n ?_
  refine AQ.seq ?_
  refine AQ.region ?_
  refine AQ.move (.plain rfl) rfl rfl ?_
  refine AQ.makeSlice (.plain rfl) rfl rfl rfl Tryz.underlying38 el3 zo3 rfl rfl (by omega) (by omega) (by omega) (fun v1 => ?_)
  refine AQ.assign (.plain rfl) rfl rfl ?_
  refine AQ.nil ?_
  refine AQ.then_n ?_
  refine AQ.seq ?_
  refine AQ.seq ?_
  refine AQ.region ?_
  refine AQ.move (.plain rfl) rfl rfl ?_
  refine AQ.move (.plain rfl) rfl rfl ?_
  refine AQ.nil ?_
  refine AQ.then_n ?_
  refine AQ.block ?_
  refine AQ.loop (σ := Nat) (fun s => [(1, .val (.func (.func g) first.toArray cap.toArray)), (5, .val v1), (9, I n), (10, I (s : Int))]) (fun s => .osl v1 3 1 (intRows (filled f n.toNat s)) :: (K ++ H)) (fun s => (s : Int) ≤ n) (fun s => n.toNat - s) 0 (by simpa using y0) ⟨rfl, rfl, rfl, rfl, trivial⟩ (by simp [filled, List.map_replicate]) (fun s hs => ?_)
  refine AQ.seq ?_
  refine AQ.region ?_
  refine AQ.lss (.plain rfl) rfl rfl rfl ?_
  refine AQ.nil ?_
  refine AQ.then_n ?_
  refine AQ.seq ?_
  refine AQ.cond_d rfl (fun h2 => ?_) (fun h2 => ?_)
  · refine AQ.skip ?_
    refine AQ.then_n ?_
    refine AQ.seq ?_
    refine AQ.block ?_
    refine AQ.seq ?_
    refine AQ.region ?_
    refine AQ.move (.plain rfl) rfl rfl ?_
    refine AQ.assign (.plain rfl) rfl rfl ?_
    refine AQ.nil ?_
    refine AQ.then_n ?_
    refine AQ.region ?_
    refine AQ.move (.plain rfl) rfl rfl ?_
    refine AQ.move (.plain rfl) rfl rfl ?_
    refine AQ.move (.plain rfl) rfl rfl ?_
    refine AQ.move (.plain rfl) rfl rfl ?_
    refine AQ.callvf (first := first) (cap := cap) (.plain rfl) rfl rfl rfl y2 (AC.perm List.perm_middle.symm (y3 s _ (by omega))) ?_
    refine AQ.perm List.perm_middle ?_
    obtain ⟨x, hx⟩ := lgetz (l := filled f n.toNat s) (z := (s : Int)) (by omega) (by rw [filled_len f (by omega)]; omega)
    refine AQ.indexo (.plain rfl) rfl 0 rfl rfl rfl Tryz.underlying38 ag3 (by omega) (by simp only [List.length_map]; rw [filled_len f (by omega)]; omega) ?_
    refine AQ.storeo1 (.plain rfl) rfl 0 rfl _ 0 rfl (intRows_getz hx) rfl rfl (.val rfl) ag3 ?_
    try simp only [List.set_cons_zero, List.set_cons_succ, intRows_set, byteRows_set]
    refine AQ.nil ?_
    refine AQ.block_n ?_
    refine AQ.then_n ?_
    refine AQ.region ?_
    refine AQ.add (.plain rfl) rfl rfl rfl (i64_id (by omega) (by omega)) ?_
    refine AQ.move (.plain rfl) rfl rfl ?_
    refine AQ.nil ?_
    exact AQ.again (Imm.le_refl _) (s + 1) (by omega) (by omega) ⟨rfl, rfl, rfl, rfl, trivial⟩ (by rw [Int.toNat_natCast, filled_step f (by omega)])
  · refine AQ.exit ?_
    refine AQ.then_e ?_
    refine AQ.then_e ?_
    refine AQ.block_hit ?_
    refine AQ.then_n ?_
    refine AQ.seq ?_
    refine AQ.region ?_
    refine AQ.move (.plain rfl) rfl rfl ?_
    refine AQ.assign (.plain rfl) rfl rfl ?_
    refine AQ.nil ?_
    refine AQ.then_n ?_
    refine AQ.ret ?_
    exact AQ.done1 (Imm.le_refl _) Tryz.results201 rfl ⟨_, rfl, by rw [show s = n.toNat by omega, filled_all]⟩
end Go.Fx
set_option linter.unusedVariables false
set_option linter.unusedSimpArgs false
set_option maxRecDepth 100000
namespace Go.Fx
open Go Go.Proofs

theorem objmapRow1 (b : Nat) (m : List Int) (i : Int) (H : List HA)  : AC Tryz.prog 245 [I i, .val (.pointer (some ⟨b, 0, none⟩))] ((.box b 38 [ints m] :: H)) (fun r' H' => r' = (I (mget m i)) ∧ H' = .box b 38 [ints m] :: H) := by
  refine AC.enter Tryz.func245 rfl Tryz.ntmps245 rfl (fun I0 => ?_)
  refine AQ.seq ?_
  refine AQ.region ?_
  refine AQ.assign (.plain rfl) rfl rfl ?_
  refine AQ.nil ?_
  refine AQ.then_n ?_
  refine AQ.seq ?_
  refine AQ.region ?_
  refine AQ.loadv1 (.plain rfl) rfl 0 rfl rfl ag38 rfl ?_
  refine AQ.move (.plain rfl) rfl rfl ?_
  refine AQ.callf (.plain rfl) rfl rfl en131 (objmapGet _ _ _) ?_
  refine AQ.assign (.plain rfl) rfl rfl ?_
  refine AQ.nil ?_
  refine AQ.then_n ?_
  refine AQ.ret ?_
  exact AQ.done1 (Imm.le_refl _) Tryz.results245 rfl ⟨rfl, rfl⟩
theorem objmapRow (m : List Int) (H : List HA)  : AC Tryz.prog 199 [ints m] (H) (fun r H' => ∃ v, r = .val v ∧ H' = .osl v 3 1 (intRows (rowL m)) :: H) := by
  refine AC.enter Tryz.func199 rfl Tryz.ntmps199 rfl (fun I0 => ?_)
  refine AQ.seq ?_
  refine AQ.region ?_
  refine AQ.box1 (.plain rfl) rfl .sl rfl (fun b1 => ?_)
  refine AQ.assign (.plain rfl) rfl rfl ?_
  refine AQ.nil ?_
  refine AQ.then_n ?_
  refine AQ.seq ?_
  refine AQ.region ?_
  refine AQ.loadv1 (.plain rfl) rfl 0 rfl rfl ag38 rfl ?_
  refine AQ.lenz (.plain rfl) (.sl rfl) rfl Tryz.underlying38 (by first | (simp only [List.length_map]; rfl) | rfl) ?_
  refine AQ.min2 (.plain rfl) rfl rfl rfl ?_
  refine AQ.makeFunc (fs := []) (cs := [_]) (.plain rfl) rfl rfl rfl ?_
  refine AQ.callo (.plain rfl) rfl rfl en201 (objmapEach (min (m.length : Int) 512) 245 [] [_] (fun i => mget m i) [.box b1 38 [ints m]] H (by omega) (by omega) en245 (fun i H hi => objmapRow1 _ _ _ H)) (fun v2 => ?_)
  rw [show (min (m.length : Int) 512).toNat = min m.length 512 by omega]
  refine AQ.callo (.plain rfl) rfl rfl en200 (objmapClean _ _ _) (fun v3 => ?_)
  refine AQ.assign (.plain rfl) rfl rfl ?_
  refine AQ.nil ?_
  refine AQ.then_n ?_
  refine AQ.ret ?_
  refine AQ.front 1 ?_
  refine AQ.dropN 1 ?_
  refine AQ.eqH (H' := _ :: H) rfl ?_
  exact AQ.done1 (Imm.le_refl _) Tryz.results199 rfl ⟨_, rfl, rfl⟩
theorem objmapSet1 (b1 b2 b3 : Nat) (m : List Int) (i state k : Int) (H : List HA)  : AC Tryz.prog 202 [I k, .val (.pointer (some ⟨b1, 0, none⟩)), .val (.pointer (some ⟨b2, 0, none⟩)), .val (.pointer (some ⟨b3, 0, none⟩))] (([.box b1 3 [I i], .box b2 3 [I state], .box b3 38 [ints m]] ++ H)) (fun r' H' => r' = (I (if k = i then state else mget m k)) ∧ H' = [.box b1 3 [I i], .box b2 3 [I state], .box b3 38 [ints m]] ++ H) := by
  refine AC.enter Tryz.func202 rfl Tryz.ntmps202 rfl (fun I0 => ?_)
  refine AQ.seq ?_
  refine AQ.region ?_
  refine AQ.assign (.plain rfl) rfl rfl ?_
  refine AQ.nil ?_
  refine AQ.then_n ?_
  refine AQ.seq ?_
  refine AQ.seq ?_
  refine AQ.region ?_
  refine AQ.move (.plain rfl) rfl rfl ?_
  refine AQ.loadv1 (.plain rfl) rfl 0 rfl rfl ag3 rfl ?_
  refine AQ.eql (.plain rfl) rfl rfl rfl ?_
  refine AQ.nil ?_
  refine AQ.then_n ?_
  refine AQ.cond_d rfl (fun h1 => ?_) (fun h1 => ?_)
  · refine AQ.seq ?_
    refine AQ.region ?_
    refine AQ.loadv1 (.plain rfl) rfl 1 rfl rfl ag3 rfl ?_
    refine AQ.assign (.plain rfl) rfl rfl ?_
    refine AQ.nil ?_
    refine AQ.then_n ?_
    refine AQ.ret ?_
    refine AQ.then_r ?_
    exact AQ.done1 (Imm.le_refl _) Tryz.results202 rfl ⟨(I_c (by first | exact if_t (by assumption) | exact if_f (by assumption))), rfl⟩
  · refine AQ.skip ?_
    refine AQ.then_n ?_
    refine AQ.seq ?_
    refine AQ.region ?_
    refine AQ.loadv1 (.plain rfl) rfl 2 rfl rfl ag38 rfl ?_
    refine AQ.move (.plain rfl) rfl rfl ?_
    refine AQ.callf (.plain rfl) rfl rfl en131 (objmapGet _ _ _) ?_
    refine AQ.assign (.plain rfl) rfl rfl ?_
    refine AQ.nil ?_
    refine AQ.then_n ?_
    refine AQ.ret ?_
    exact AQ.done1 (Imm.le_refl _) Tryz.results202 rfl ⟨(I_c (by first | exact if_t (by assumption) | exact if_f (by assumption))), rfl⟩
theorem objmapSet (m : List Int) (i state : Int) (H : List HA)  : AC Tryz.prog 128 [ints m, I i, I state] (H) (fun r H' => ∃ v, r = .val v ∧ H' = .osl v 3 1 (intRows (setL m i state)) :: H) := by
  refine AC.enter Tryz.func128 rfl Tryz.ntmps128 rfl (fun I0 => ?_)
  refine AQ.seq ?_
  refine AQ.region ?_
  refine AQ.box1 (.plain rfl) rfl .sl rfl (fun b1 => ?_)
  refine AQ.box1 (.plain rfl) rfl (.val rfl) rfl (fun b2 => ?_)
  refine AQ.box1 (.plain rfl) rfl (.val rfl) rfl (fun b3 => ?_)
  refine AQ.assign (.plain rfl) rfl rfl ?_
  refine AQ.nil ?_
  refine AQ.then_n ?_
  refine AQ.seq ?_
  refine AQ.seq ?_
  refine AQ.region ?_
  refine AQ.loadv1 (.plain rfl) rfl 1 rfl rfl ag3 rfl ?_
  refine AQ.lss (.plain rfl) rfl rfl rfl ?_
  refine AQ.move (.plain rfl) rfl rfl ?_
  refine AQ.split (t := 9) rfl (fun h4 => ?_) (fun h4 => ?_)
  · refine AQ.off rfl rfl rfl rfl ?_
    refine AQ.off rfl rfl rfl rfl ?_
    refine AQ.pick_t (.plain rfl) rfl rfl rfl ?_
    refine AQ.move (.plain rfl) rfl rfl ?_
    refine AQ.off rfl rfl rfl rfl ?_
    refine AQ.off rfl rfl rfl rfl ?_
    refine AQ.off rfl rfl rfl rfl ?_
    refine AQ.pick_t (.plain rfl) rfl rfl rfl ?_
    refine AQ.nil ?_
    refine AQ.then_n ?_
    refine AQ.cond_t rfl ?_
    refine AQ.seq ?_
    refine AQ.region ?_
    refine AQ.loadv1 (.plain rfl) rfl 2 rfl rfl ag38 rfl ?_
    refine AQ.callo (.plain rfl) rfl rfl en199 (objmapRow _ _) (fun v5 => ?_)
    refine AQ.assign (.plain rfl) rfl rfl ?_
    refine AQ.nil ?_
    refine AQ.then_n ?_
    refine AQ.ret ?_
    refine AQ.then_r ?_
    refine AQ.front 1 ?_
    refine AQ.dropN 1 ?_
    refine AQ.front 1 ?_
    refine AQ.dropN 1 ?_
    refine AQ.front 1 ?_
    refine AQ.dropN 1 ?_
    refine AQ.eqH (H' := _ :: H) rfl ?_
    exact AQ.done1 (Imm.le_refl _) Tryz.results128 rfl ⟨_, rfl, by unfold setL; rw [if_neg (fun hh => by first | omega | (exact absurd hh.2.2 (by assumption)))]⟩
  · refine AQ.loadv1 (.on rfl rfl rfl) rfl 1 rfl rfl ag3 rfl ?_
    refine AQ.geq (.on rfl rfl rfl) rfl rfl rfl ?_
    refine AQ.pick_f (.plain rfl) rfl rfl rfl ?_
    refine AQ.move (.plain rfl) rfl rfl ?_
    refine AQ.split (t := 13) rfl (fun h6 => ?_) (fun h6 => ?_)
    · refine AQ.off rfl rfl rfl rfl ?_
      refine AQ.off rfl rfl rfl rfl ?_
      refine AQ.off rfl rfl rfl rfl ?_
      refine AQ.pick_t (.plain rfl) rfl rfl rfl ?_
      refine AQ.nil ?_
      refine AQ.then_n ?_
      refine AQ.cond_t rfl ?_
      refine AQ.seq ?_
      refine AQ.region ?_
      refine AQ.loadv1 (.plain rfl) rfl 2 rfl rfl ag38 rfl ?_
      refine AQ.callo (.plain rfl) rfl rfl en199 (objmapRow _ _) (fun v7 => ?_)
      refine AQ.assign (.plain rfl) rfl rfl ?_
      refine AQ.nil ?_
      refine AQ.then_n ?_
      refine AQ.ret ?_
      refine AQ.then_r ?_
      refine AQ.front 1 ?_
      refine AQ.dropN 1 ?_
      refine AQ.front 1 ?_
      refine AQ.dropN 1 ?_
      refine AQ.front 1 ?_
      refine AQ.dropN 1 ?_
      refine AQ.eqH (H' := _ :: H) rfl ?_
      exact AQ.done1 (Imm.le_refl _) Tryz.results128 rfl ⟨_, rfl, by unfold setL; rw [if_neg (fun hh => by first | omega | (exact absurd hh.2.2 (by assumption)))]⟩
    · refine AQ.loadv1 (.on rfl rfl rfl) rfl 0 rfl rfl ag3 rfl ?_
      refine AQ.callf (.on rfl rfl rfl) rfl rfl en198 (objmapRight _ _) ?_
      refine AQ.not_d (.on rfl rfl rfl) rfl rfl ?_
      refine AQ.pick_f (.plain rfl) rfl rfl rfl ?_
      refine AQ.nil ?_
      refine AQ.then_n ?_
      refine AQ.cond_d rfl (fun h8 => ?_) (fun h8 => ?_)
      · refine AQ.seq ?_
        refine AQ.region ?_
        refine AQ.loadv1 (.plain rfl) rfl 2 rfl rfl ag38 rfl ?_
        refine AQ.callo (.plain rfl) rfl rfl en199 (objmapRow _ _) (fun v9 => ?_)
        refine AQ.assign (.plain rfl) rfl rfl ?_
        refine AQ.nil ?_
        refine AQ.then_n ?_
        refine AQ.ret ?_
        refine AQ.then_r ?_
        refine AQ.front 1 ?_
        refine AQ.dropN 1 ?_
        refine AQ.front 1 ?_
        refine AQ.dropN 1 ?_
        refine AQ.front 1 ?_
        refine AQ.dropN 1 ?_
        refine AQ.eqH (H' := _ :: H) rfl ?_
        exact AQ.done1 (Imm.le_refl _) Tryz.results128 rfl ⟨_, rfl, by unfold setL; rw [if_neg (fun hh => by first | omega | (exact absurd hh.2.2 (by assumption)))]⟩
      · refine AQ.skip ?_
        refine AQ.then_n ?_
        refine AQ.seq ?_
        refine AQ.region ?_
        refine AQ.loadv1 (.plain rfl) rfl 2 rfl rfl ag38 rfl ?_
        refine AQ.lenz (.plain rfl) (.sl rfl) rfl Tryz.underlying38 (by first | (simp only [List.length_map]; rfl) | rfl) ?_
        refine AQ.min2 (.plain rfl) rfl rfl rfl ?_
        refine AQ.loadv1 (.plain rfl) rfl 1 rfl rfl ag3 rfl ?_
        refine AQ.add (.plain rfl) rfl rfl rfl (i64_id (by omega) (by omega)) ?_
        refine AQ.max2 (.plain rfl) rfl rfl rfl ?_
        refine AQ.makeFunc (fs := []) (cs := [_, _, _]) (.plain rfl) rfl rfl rfl ?_
        refine AQ.front 2 ?_
        refine AQ.front 2 ?_
        refine AQ.front 2 ?_
        refine AQ.front 1 ?_
        refine AQ.callo (.plain rfl) rfl rfl en201 (objmapEach (max (min (m.length : Int) 512) (i + 1)) 202 [] [_, _, _] (fun k => if (k : Int) = i then state else mget m k) [.box b2 3 [I i], .box b3 3 [I state], .box b1 38 [ints m]] H (by omega) (by omega) en202 (fun k H hk => objmapSet1 _ _ _ _ _ _ _ H)) (fun v10 => ?_)
        rw [show (max (min (m.length : Int) 512) (i + 1)).toNat = max (min m.length 512) (i.toNat + 1) by omega]
        refine AQ.callo (.plain rfl) rfl rfl en200 (objmapClean _ _ _) (fun v11 => ?_)
        refine AQ.assign (.plain rfl) rfl rfl ?_
        refine AQ.nil ?_
        refine AQ.then_n ?_
        refine AQ.ret ?_
        refine AQ.front 1 ?_
        refine AQ.dropN 1 ?_
        refine AQ.front 1 ?_
        refine AQ.dropN 1 ?_
        refine AQ.front 1 ?_
        refine AQ.dropN 1 ?_
        refine AQ.eqH (H' := _ :: H) rfl ?_
        exact AQ.done1 (Imm.le_refl _) Tryz.results128 rfl ⟨_, rfl, by unfold setL; rw [if_pos ⟨by omega, by omega, Decidable.not_not.1 (by assumption)⟩]⟩
end Go.Fx
set_option linter.unusedVariables false
set_option linter.unusedSimpArgs false
set_option maxRecDepth 100000
namespace Go.Fx
open Go Go.Proofs

theorem indexInts (l : List Int) (g : Nat) (first cap : List Value) (p : Int → Bool) (K : List HA) (H : List HA) (y0 : Enters Tryz.prog g) (y1 : ∀ (x : Int) (H : List HA), x ∈ l → AC Tryz.prog g (first.map .val ++ [I x] ++ cap.map .val) (K ++ H) (fun r H' => r = .val (.bool (p x)) ∧ H' = K ++ H)) : AC Tryz.prog 281 [.sl 1 (l.map fun x => [I x]), .val (.func (.func g) first.toArray cap.toArray)] ((K ++ H)) (fun r' H' => r' = (I (idx p l)) ∧ H' = K ++ H) := by
  refine AC.enter Tryz.func281 rfl Tryz.ntmps281 rfl (fun I0 => ?_)
  refine AQ.slB (t := 0) rfl (fun z1 => ?_)
  simp only [List.length_map] at z1
  refine AQ.seq ?_
  refine AQ.region ?_
  refine AQ.assign (.plain rfl) rfl rfl ?_
  refine AQ.nil ?_
  refine AQ.then_n ?_
  refine AQ.seq ?_
  refine AQ.seq ?_
  refine AQ.region ?_
  refine AQ.move (.plain rfl) rfl rfl ?_
  refine AQ.lenz (.plain rfl) (.sl rfl) rfl Tryz.underlying38 (by first | (simp only [List.length_map]; rfl) | rfl) ?_
  refine AQ.move (.plain rfl) rfl rfl ?_
  refine AQ.nil ?_
  refine AQ.then_n ?_
  refine AQ.block ?_
  refine AQ.loop (σ := Nat) (fun s => [(0, .sl 1 (l.map fun x => [I x])), (1, .val (.func (.func g) first.toArray cap.toArray)), (7, I (l.length : Int)), (8, I (s : Int))]) (fun s => K ++ H) (fun s => s ≤ l.length ∧ ∀ y ∈ l.take s, p y = false) (fun s => l.length - s) 0 (by simp) ⟨rfl, rfl, rfl, rfl, trivial⟩ rfl (fun s hs => ?_)
  refine AQ.seq ?_
  refine AQ.region ?_
  refine AQ.lss (.plain rfl) rfl rfl rfl ?_
  refine AQ.nil ?_
  refine AQ.then_n ?_
  refine AQ.seq ?_
  refine AQ.cond_d rfl (fun h1 => ?_) (fun h1 => ?_)
  · refine AQ.skip ?_
    refine AQ.then_n ?_
    refine AQ.seq ?_
    refine AQ.block ?_
    refine AQ.seq ?_
    refine AQ.region ?_
    refine AQ.move (.plain rfl) rfl rfl ?_
    refine AQ.assign (.plain rfl) rfl rfl ?_
    refine AQ.nil ?_
    refine AQ.then_n ?_
    refine AQ.seq ?_
    refine AQ.region ?_
    refine AQ.move (.plain rfl) rfl rfl ?_
    refine AQ.move (.plain rfl) rfl rfl ?_
    refine AQ.move (.plain rfl) rfl rfl ?_
    obtain ⟨x, hx⟩ := lgetz (l := l) (z := (s : Int)) (by omega) (by omega)
    refine AQ.indexAddr (.plain rfl) rfl rfl rfl Tryz.underlying38 ag3 (by omega) (by rw [List.getElem?_map, hx]; rfl) ?_
    rw [Int.toNat_natCast] at hx
    refine AQ.load1 (.plain rfl) rfl rfl ag3 rfl ?_
    refine AQ.callvf (first := first) (cap := cap) (.plain rfl) rfl rfl rfl y0 (y1 x H (List.mem_of_getElem? hx)) ?_
    refine AQ.nil ?_
    refine AQ.then_n ?_
    refine AQ.cond rfl (fun h2 => ?_) (fun h2 => ?_)
    · refine AQ.seq ?_
      refine AQ.region ?_
      refine AQ.move (.plain rfl) rfl rfl ?_
      refine AQ.assign (.plain rfl) rfl rfl ?_
      refine AQ.nil ?_
      refine AQ.then_n ?_
      refine AQ.ret ?_
      refine AQ.block_r ?_
      refine AQ.then_r ?_
      refine AQ.then_r ?_
      refine AQ.block_r ?_
      refine AQ.then_r ?_
      exact AQ.done1 (Imm.le_refl _) Tryz.results281 rfl ⟨(I_c (idx_hit hx (by assumption) hs.2).symm), rfl⟩
    · refine AQ.skip ?_
      refine AQ.block_n ?_
      refine AQ.then_n ?_
      refine AQ.region ?_
      refine AQ.add (.plain rfl) rfl rfl rfl (i64_id (by omega) (by omega)) ?_
      refine AQ.move (.plain rfl) rfl rfl ?_
      refine AQ.nil ?_
      exact AQ.again (Imm.le_refl _) (s + 1) ⟨by omega, take_more hx (by assumption) hs.2⟩ (by omega) ⟨rfl, rfl, rfl, rfl, trivial⟩ rfl
  · refine AQ.exit ?_
    refine AQ.then_e ?_
    refine AQ.then_e ?_
    refine AQ.block_hit ?_
    refine AQ.then_n ?_
    refine AQ.seq ?_
    refine AQ.region ?_
    refine AQ.assign (.plain rfl) rfl rfl ?_
    refine AQ.nil ?_
    refine AQ.then_n ?_
    refine AQ.ret ?_
    exact AQ.done1 (Imm.le_refl _) Tryz.results281 rfl ⟨(I_c (idx_miss (by have h := hs.2; rwa [List.take_of_length_le (by omega)] at h)).symm), rfl⟩
theorem containsInts (l : List Int) (g : Nat) (first cap : List Value) (p : Int → Bool) (K : List HA) (H : List HA) (y0 : Enters Tryz.prog g) (y1 : ∀ (x : Int) (H : List HA), x ∈ l → AC Tryz.prog g (first.map .val ++ [I x] ++ cap.map .val) (K ++ H) (fun r H' => r = .val (.bool (p x)) ∧ H' = K ++ H)) : AC Tryz.prog 243 [ints l, .val (.func (.func g) first.toArray cap.toArray)] ((K ++ H)) (fun r' H' => r' = (B (0 ≤ idx p l)) ∧ H' = K ++ H) := by
  refine AC.enter Tryz.func243 rfl Tryz.ntmps243 rfl (fun I0 => ?_)
  refine AQ.seq ?_
  refine AQ.region ?_
  refine AQ.assign (.plain rfl) rfl rfl ?_
  refine AQ.nil ?_
  refine AQ.then_n ?_
  refine AQ.seq ?_
  refine AQ.region ?_
  refine AQ.move (.plain rfl) rfl rfl ?_
  refine AQ.move (.plain rfl) rfl rfl ?_
  refine AQ.callf (.plain rfl) rfl rfl en281 (indexInts l g first cap p K H y0 y1) ?_
  refine AQ.geq (.plain rfl) rfl rfl rfl ?_
  refine AQ.assign (.plain rfl) rfl rfl ?_
  refine AQ.nil ?_
  refine AQ.then_n ?_
  refine AQ.ret ?_
  exact AQ.done1 (Imm.le_refl _) Tryz.results243 rfl ⟨rfl, rfl⟩
theorem objmapCheck1 (n : Int) (H : List HA)  : AC Tryz.prog 244 [I n] (H) (fun r' H' => r' = (B (¬ right n)) ∧ H' = H) := by
  refine AC.enter Tryz.func244 rfl Tryz.ntmps244 rfl (fun I0 => ?_)
  refine AQ.seq ?_
  refine AQ.region ?_
  refine AQ.assign (.plain rfl) rfl rfl ?_
  refine AQ.nil ?_
  refine AQ.then_n ?_
  refine AQ.seq ?_
  refine AQ.region ?_
  refine AQ.move (.plain rfl) rfl rfl ?_
  refine AQ.callf (.plain rfl) rfl rfl en198 (objmapRight _ _) ?_
  refine AQ.not_d (.plain rfl) rfl rfl ?_
  refine AQ.assign (.plain rfl) rfl rfl ?_
  refine AQ.nil ?_
  refine AQ.then_n ?_
  refine AQ.ret ?_
  exact AQ.done1 (Imm.le_refl _) Tryz.results244 rfl ⟨rfl, rfl⟩
theorem objmapCheck (m : List Int) (H : List HA)  : AC Tryz.prog 195 [ints m] (H) (fun r' H' => r' = (B (MapMay m)) ∧ H' = H) := by
  refine AC.enter Tryz.func195 rfl Tryz.ntmps195 rfl (fun I0 => ?_)
  refine AQ.slB (t := 0) rfl (fun z1 => ?_)
  simp only [List.length_map] at z1
  refine AQ.seq ?_
  refine AQ.region ?_
  refine AQ.assign (.plain rfl) rfl rfl ?_
  refine AQ.nil ?_
  refine AQ.then_n ?_
  refine AQ.seq ?_
  refine AQ.region ?_
  refine AQ.move (.plain rfl) rfl rfl ?_
  refine AQ.lenz (.plain rfl) (.sl rfl) rfl Tryz.underlying38 (by first | (simp only [List.length_map]; rfl) | rfl) ?_
  refine AQ.leq (.plain rfl) rfl rfl rfl ?_
  refine AQ.move (.plain rfl) rfl rfl ?_
  refine AQ.split (t := 6) rfl (fun h1 => ?_) (fun h1 => ?_)
  · refine AQ.move (.on rfl rfl rfl) rfl rfl ?_
    refine AQ.callf (.on rfl rfl rfl) rfl rfl en243 (containsInts m 244 [] [] (fun x => decide (¬ right x)) [] H en244 (fun x H _ => objmapCheck1 x H)) ?_
    refine AQ.not_d (.on rfl rfl rfl) rfl rfl ?_
    refine AQ.pick_t (.plain rfl) rfl rfl rfl ?_
    refine AQ.move (.plain rfl) rfl rfl ?_
    refine AQ.split (t := 11) rfl (fun h2 => ?_) (fun h2 => ?_)
    · refine AQ.move (.on rfl rfl rfl) rfl rfl ?_
      refine AQ.lenz (.on rfl rfl rfl) (.sl rfl) rfl Tryz.underlying38 (by first | (simp only [List.length_map]; rfl) | rfl) ?_
      refine AQ.eql (.on rfl rfl rfl) rfl rfl rfl ?_
      refine AQ.move (.on rfl rfl rfl) rfl rfl ?_
      refine AQ.split (t := 15) rfl (fun h3 => ?_) (fun h3 => ?_)
      · refine AQ.off rfl rfl rfl rfl ?_
        refine AQ.off rfl rfl rfl rfl ?_
        refine AQ.off rfl rfl rfl rfl ?_
        refine AQ.off rfl rfl rfl rfl ?_
        refine AQ.off rfl rfl rfl rfl ?_
        refine AQ.off rfl rfl rfl rfl ?_
        refine AQ.off rfl rfl rfl rfl ?_
        refine AQ.pick_t (.on rfl rfl rfl) rfl rfl rfl ?_
        refine AQ.pick_t (.plain rfl) rfl rfl rfl ?_
        refine AQ.assign (.plain rfl) rfl rfl ?_
        refine AQ.nil ?_
        refine AQ.then_n ?_
        refine AQ.ret ?_
        exact AQ.done1 (Imm.le_refl _) Tryz.results195 rfl ⟨(by unfold MapMay; first | exact B_f (by omega) | exact B_f (fun hh => absurd (idx_right.2 hh.2.1) (by assumption)) | exact B_t ⟨by omega, idx_right.1 (by assumption), .inl (by omega)⟩ | exact B_c ⟨fun h => ⟨by omega, idx_right.1 (by assumption), .inr (by rw [getD_of hx]; exact h)⟩, fun h => by have := h.2.2.resolve_left (by omega); rwa [getD_of hx] at this⟩), rfl⟩
      · refine AQ.move (.on rfl rfl rfl) rfl rfl ?_
        refine AQ.move (.on rfl rfl rfl) rfl rfl ?_
        refine AQ.lenz (.on rfl rfl rfl) (.sl rfl) rfl Tryz.underlying38 (by first | (simp only [List.length_map]; rfl) | rfl) ?_
        refine AQ.sub (.on rfl rfl rfl) rfl rfl rfl (i64_id (by omega) (by omega)) ?_
        obtain ⟨x, hx⟩ := lgetz (l := m) (z := ((m.length : Int) - 1)) (by omega) (by omega)
        refine AQ.indexAddr (.on rfl rfl rfl) rfl rfl rfl Tryz.underlying38 ag3 (by omega) (intRows_getz hx) ?_
        rw [show ((m.length : Int) - 1).toNat = m.length - 1 by omega] at hx
        refine AQ.load1 (.on rfl rfl rfl) rfl rfl ag3 rfl ?_
        refine AQ.neq (.on rfl rfl rfl) rfl rfl rfl ?_
        refine AQ.pick_f (.on rfl rfl rfl) rfl rfl rfl ?_
        refine AQ.pick_t (.plain rfl) rfl rfl rfl ?_
        refine AQ.assign (.plain rfl) rfl rfl ?_
        refine AQ.nil ?_
        refine AQ.then_n ?_
        refine AQ.ret ?_
        exact AQ.done1 (Imm.le_refl _) Tryz.results195 rfl ⟨(by unfold MapMay; first | exact B_f (by omega) | exact B_f (fun hh => absurd (idx_right.2 hh.2.1) (by assumption)) | exact B_t ⟨by omega, idx_right.1 (by assumption), .inl (by omega)⟩ | exact B_c ⟨fun h => ⟨by omega, idx_right.1 (by assumption), .inr (by rw [getD_of hx]; exact h)⟩, fun h => by have := h.2.2.resolve_left (by omega); rwa [getD_of hx] at this⟩), rfl⟩
    · refine AQ.off rfl rfl rfl rfl ?_
      refine AQ.off rfl rfl rfl rfl ?_
      refine AQ.off rfl rfl rfl rfl ?_
      refine AQ.off rfl rfl rfl rfl ?_
      refine AQ.off_u rfl rfl rfl ?_
      refine AQ.off_u rfl rfl rfl ?_
      refine AQ.off_u rfl rfl rfl ?_
      refine AQ.off_u rfl rfl rfl ?_
      refine AQ.off_u rfl rfl rfl ?_
      refine AQ.off_u rfl rfl rfl ?_
      refine AQ.off_u rfl rfl rfl ?_
      refine AQ.off rfl rfl rfl rfl ?_
      refine AQ.pick_f (.plain rfl) rfl rfl rfl ?_
      refine AQ.assign (.plain rfl) rfl rfl ?_
      refine AQ.nil ?_
      refine AQ.then_n ?_
      refine AQ.ret ?_
      exact AQ.done1 (Imm.le_refl _) Tryz.results195 rfl ⟨(by unfold MapMay; first | exact B_f (by omega) | exact B_f (fun hh => absurd (idx_right.2 hh.2.1) (by assumption)) | exact B_t ⟨by omega, idx_right.1 (by assumption), .inl (by omega)⟩ | exact B_c ⟨fun h => ⟨by omega, idx_right.1 (by assumption), .inr (by rw [getD_of hx]; exact h)⟩, fun h => by have := h.2.2.resolve_left (by omega); rwa [getD_of hx] at this⟩), rfl⟩
  · refine AQ.off rfl rfl rfl rfl ?_
    refine AQ.off rfl rfl rfl rfl ?_
    refine AQ.off rfl rfl rfl rfl ?_
    refine AQ.pick_f (.plain rfl) rfl rfl rfl ?_
    refine AQ.move (.plain rfl) rfl rfl ?_
    refine AQ.off rfl rfl rfl rfl ?_
    refine AQ.off rfl rfl rfl rfl ?_
    refine AQ.off rfl rfl rfl rfl ?_
    refine AQ.off rfl rfl rfl rfl ?_
    refine AQ.off_u rfl rfl rfl ?_
    refine AQ.off_u rfl rfl rfl ?_
    refine AQ.off_u rfl rfl rfl ?_
    refine AQ.off_u rfl rfl rfl ?_
    refine AQ.off_u rfl rfl rfl ?_
    refine AQ.off_u rfl rfl rfl ?_
    refine AQ.off_u rfl rfl rfl ?_
    refine AQ.off rfl rfl rfl rfl ?_
    refine AQ.pick_f (.plain rfl) rfl rfl rfl ?_
    refine AQ.assign (.plain rfl) rfl rfl ?_
    refine AQ.nil ?_
    refine AQ.then_n ?_
    refine AQ.ret ?_
    exact AQ.done1 (Imm.le_refl _) Tryz.results195 rfl ⟨(by unfold MapMay; first | exact B_f (by omega) | exact B_f (fun hh => absurd (idx_right.2 hh.2.1) (by assumption)) | exact B_t ⟨by omega, idx_right.1 (by assumption), .inl (by omega)⟩ | exact B_c ⟨fun h => ⟨by omega, idx_right.1 (by assumption), .inr (by rw [getD_of hx]; exact h)⟩, fun h => by have := h.2.2.resolve_left (by omega); rwa [getD_of hx] at this⟩), rfl⟩
theorem objmapFresh (m : List Int) (H : List HA)  : AC Tryz.prog 134 [ints m] (H) (fun r H' => ∃ v, r = .val v ∧ H' = .osl v 3 1 (intRows (freshL m)) :: H) := by
  refine AC.enter Tryz.func134 rfl Tryz.ntmps134 rfl (fun I0 => ?_)
  refine AQ.seq ?_
  refine AQ.region ?_
  refine AQ.assign (.plain rfl) rfl rfl ?_
  refine AQ.nil ?_
  refine AQ.then_n ?_
  refine AQ.seq ?_
  refine AQ.region ?_
  refine AQ.move (.plain rfl) rfl rfl ?_
  refine AQ.callo (.plain rfl) rfl rfl en199 (objmapRow _ _) (fun v1 => ?_)
  refine AQ.assign (.plain rfl) rfl rfl ?_
  refine AQ.nil ?_
  refine AQ.then_n ?_
  refine AQ.seq ?_
  refine AQ.seq ?_
  refine AQ.region ?_
  refine AQ.move (.plain rfl) rfl rfl ?_
  refine AQ.lenz (.plain rfl) (.osl rfl 0 rfl) rfl Tryz.underlying38 (by first | (simp only [List.length_map]; rfl) | rfl) ?_
  refine AQ.move (.plain rfl) rfl rfl ?_
  refine AQ.nil ?_
  refine AQ.then_n ?_
  refine AQ.block ?_
  refine AQ.oslB 0 rfl (fun z1 => ?_)
  simp only [List.length_map] at z1
  refine AQ.loop (σ := Nat) (fun s => [(3, .val v1), (8, I ((rowL m).length : Int)), (9, I (s : Int))]) (fun s => .osl v1 3 1 (intRows (mapped (fun _ x => if x = 1 then 2 else x) (rowL m) s)) :: H) (fun s => s ≤ (rowL m).length) (fun s => (rowL m).length - s) 0 (by simp) ⟨rfl, rfl, rfl, trivial⟩ (by rw [mapped_zero]) (fun s hs => ?_)
  refine AQ.seq ?_
  refine AQ.region ?_
  refine AQ.lss (.plain rfl) rfl rfl rfl ?_
  refine AQ.nil ?_
  refine AQ.then_n ?_
  refine AQ.seq ?_
  refine AQ.cond_d rfl (fun h2 => ?_) (fun h2 => ?_)
  · refine AQ.skip ?_
    refine AQ.then_n ?_
    refine AQ.seq ?_
    refine AQ.block ?_
    refine AQ.seq ?_
    refine AQ.region ?_
    refine AQ.move (.plain rfl) rfl rfl ?_
    refine AQ.assign (.plain rfl) rfl rfl ?_
    refine AQ.nil ?_
    refine AQ.then_n ?_
    refine AQ.seq ?_
    refine AQ.region ?_
    refine AQ.move (.plain rfl) rfl rfl ?_
    refine AQ.move (.plain rfl) rfl rfl ?_
    obtain ⟨x, hx0⟩ := lgetz (l := mapped (fun _ x => if x = 1 then 2 else x) (rowL m) s) (z := (s : Int)) (by omega) (by rw [mapped_len]; omega)
    rw [Int.toNat_natCast] at hx0
    have hx := mapped_get (fun _ x => if x = 1 then 2 else x) hx0
    refine AQ.indexo (.plain rfl) rfl 0 rfl rfl rfl Tryz.underlying38 ag3 (by omega) (by simp only [List.length_map]; rw [mapped_len]; omega) ?_
    refine AQ.loado1 (.plain rfl) rfl 0 rfl _ 0 rfl (intRows_getz hx0) rfl rfl ag3  ?_
    refine AQ.eql (.plain rfl) rfl rfl rfl ?_
    refine AQ.nil ?_
    refine AQ.then_n ?_
    refine AQ.cond_d rfl (fun h3 => ?_) (fun h3 => ?_)
    · refine AQ.region ?_
      refine AQ.move (.plain rfl) rfl rfl ?_
      refine AQ.move (.plain rfl) rfl rfl ?_
      refine AQ.indexo (.plain rfl) rfl 0 rfl rfl rfl Tryz.underlying38 ag3 (by omega) (by simp only [List.length_map]; rw [mapped_len]; omega) ?_
      refine AQ.storeo1 (.plain rfl) rfl 0 rfl _ 0 rfl (intRows_getz hx0) rfl rfl (.val rfl) ag3 ?_
      try simp only [List.set_cons_zero, List.set_cons_succ, intRows_set, byteRows_set]
      refine AQ.nil ?_
      refine AQ.block_n ?_
      refine AQ.then_n ?_
      refine AQ.region ?_
      refine AQ.add (.plain rfl) rfl rfl rfl (i64_id (by omega) (by omega)) ?_
      refine AQ.move (.plain rfl) rfl rfl ?_
      refine AQ.nil ?_
      exact AQ.again (Imm.le_refl _) (s + 1) (by omega) (by omega) ⟨rfl, rfl, rfl, trivial⟩ (by first | (rw [Int.toNat_natCast, mapped_set (fun _ x => if x = 1 then 2 else x) hx (by simp [*])]) | (rw [mapped_same (fun _ x => if x = 1 then 2 else x) hx (by simp_all)]))
    · refine AQ.skip ?_
      refine AQ.block_n ?_
      refine AQ.then_n ?_
      refine AQ.region ?_
      refine AQ.add (.plain rfl) rfl rfl rfl (i64_id (by omega) (by omega)) ?_
      refine AQ.move (.plain rfl) rfl rfl ?_
      refine AQ.nil ?_
      exact AQ.again (Imm.le_refl _) (s + 1) (by omega) (by omega) ⟨rfl, rfl, rfl, trivial⟩ (by first | (rw [Int.toNat_natCast, mapped_set (fun _ x => if x = 1 then 2 else x) hx (by simp [*])]) | (rw [mapped_same (fun _ x => if x = 1 then 2 else x) hx (by simp_all)]))
  · refine AQ.exit ?_
    refine AQ.then_e ?_
    refine AQ.then_e ?_
    refine AQ.block_hit ?_
    refine AQ.then_n ?_
    refine AQ.seq ?_
    refine AQ.region ?_
    refine AQ.move (.plain rfl) rfl rfl ?_
    refine AQ.assign (.plain rfl) rfl rfl ?_
    refine AQ.nil ?_
    refine AQ.then_n ?_
    refine AQ.ret ?_
    exact AQ.done1 (Imm.le_refl _) Tryz.results134 rfl ⟨_, rfl, by rw [show s = (rowL m).length by omega, mapped_all]; rfl⟩
theorem objmapMerge (older newer : List Int) (H : List HA)  : AC Tryz.prog 137 [ints older, ints newer] (H) (fun r H' => ∃ v, r = .val v ∧ H' = .osl v 3 1 (intRows (mergeL older newer)) :: H) := by
  refine AC.enter Tryz.func137 rfl Tryz.ntmps137 rfl (fun I0 => ?_)
  refine AQ.seq ?_
  refine AQ.region ?_
  refine AQ.assign (.plain rfl) rfl rfl ?_
  refine AQ.nil ?_
  refine AQ.then_n ?_
  refine AQ.seq ?_
  refine AQ.region ?_
  refine AQ.move (.plain rfl) rfl rfl ?_
  refine AQ.callo (.plain rfl) rfl rfl en199 (objmapRow _ _) (fun v1 => ?_)
  refine AQ.assign (.plain rfl) rfl rfl ?_
  refine AQ.nil ?_
  refine AQ.then_n ?_
  refine AQ.seq ?_
  refine AQ.seq ?_
  refine AQ.region ?_
  refine AQ.move (.plain rfl) rfl rfl ?_
  refine AQ.lenz (.plain rfl) (.osl rfl 0 rfl) rfl Tryz.underlying38 (by first | (simp only [List.length_map]; rfl) | rfl) ?_
  refine AQ.move (.plain rfl) rfl rfl ?_
  refine AQ.nil ?_
  refine AQ.then_n ?_
  refine AQ.block ?_
  refine AQ.oslB 0 rfl (fun z1 => ?_)
  simp only [List.length_map] at z1
  refine AQ.loop (σ := Nat) (fun s => [(0, ints older), (5, .val v1), (10, I ((rowL newer).length : Int)), (11, I (s : Int))]) (fun s => .osl v1 3 1 (intRows (mapped (fun i x => if x = 2 ∧ mget older i = 1 then 1 else x) (rowL newer) s)) :: H) (fun s => s ≤ (rowL newer).length) (fun s => (rowL newer).length - s) 0 (by simp) ⟨rfl, rfl, rfl, rfl, trivial⟩ (by rw [mapped_zero]) (fun s hs => ?_)
  refine AQ.seq ?_
  refine AQ.region ?_
  refine AQ.lss (.plain rfl) rfl rfl rfl ?_
  refine AQ.nil ?_
  refine AQ.then_n ?_
  refine AQ.seq ?_
  refine AQ.cond_d rfl (fun h2 => ?_) (fun h2 => ?_)
  · refine AQ.skip ?_
    refine AQ.then_n ?_
    refine AQ.seq ?_
    refine AQ.block ?_
    refine AQ.seq ?_
    refine AQ.region ?_
    refine AQ.move (.plain rfl) rfl rfl ?_
    refine AQ.assign (.plain rfl) rfl rfl ?_
    refine AQ.nil ?_
    refine AQ.then_n ?_
    refine AQ.seq ?_
    refine AQ.region ?_
    refine AQ.move (.plain rfl) rfl rfl ?_
    refine AQ.move (.plain rfl) rfl rfl ?_
    obtain ⟨x, hx0⟩ := lgetz (l := mapped (fun i x => if x = 2 ∧ mget older i = 1 then 1 else x) (rowL newer) s) (z := (s : Int)) (by omega) (by rw [mapped_len]; omega)
    rw [Int.toNat_natCast] at hx0
    have hx := mapped_get (fun i x => if x = 2 ∧ mget older i = 1 then 1 else x) hx0
    refine AQ.indexo (.plain rfl) rfl 0 rfl rfl rfl Tryz.underlying38 ag3 (by omega) (by simp only [List.length_map]; rw [mapped_len]; omega) ?_
    refine AQ.loado1 (.plain rfl) rfl 0 rfl _ 0 rfl (intRows_getz hx0) rfl rfl ag3  ?_
    refine AQ.eql (.plain rfl) rfl rfl rfl ?_
    refine AQ.move (.plain rfl) rfl rfl ?_
    refine AQ.split (t := 19) rfl (fun h3 => ?_) (fun h3 => ?_)
    · refine AQ.move (.on rfl rfl rfl) rfl rfl ?_
      refine AQ.move (.on rfl rfl rfl) rfl rfl ?_
      refine AQ.callf (.on rfl rfl rfl) rfl rfl en131 (objmapGet _ _ _) ?_
      refine AQ.eql (.on rfl rfl rfl) rfl rfl rfl ?_
      refine AQ.pick_t (.plain rfl) rfl rfl rfl ?_
      refine AQ.nil ?_
      refine AQ.then_n ?_
      refine AQ.cond_d rfl (fun h4 => ?_) (fun h4 => ?_)
      · refine AQ.region ?_
        refine AQ.move (.plain rfl) rfl rfl ?_
        refine AQ.move (.plain rfl) rfl rfl ?_
        refine AQ.indexo (.plain rfl) rfl 0 rfl rfl rfl Tryz.underlying38 ag3 (by omega) (by simp only [List.length_map]; rw [mapped_len]; omega) ?_
        refine AQ.storeo1 (.plain rfl) rfl 0 rfl _ 0 rfl (intRows_getz hx0) rfl rfl (.val rfl) ag3 ?_
        try simp only [List.set_cons_zero, List.set_cons_succ, intRows_set, byteRows_set]
        refine AQ.nil ?_
        refine AQ.block_n ?_
        refine AQ.then_n ?_
        refine AQ.region ?_
        refine AQ.add (.plain rfl) rfl rfl rfl (i64_id (by omega) (by omega)) ?_
        refine AQ.move (.plain rfl) rfl rfl ?_
        refine AQ.nil ?_
        exact AQ.again (Imm.le_refl _) (s + 1) (by omega) (by omega) ⟨rfl, rfl, rfl, rfl, trivial⟩ (by first | (rw [Int.toNat_natCast, mapped_set (fun i x => if x = 2 ∧ mget older i = 1 then 1 else x) hx (by simp [*])]) | (rw [mapped_same (fun i x => if x = 2 ∧ mget older i = 1 then 1 else x) hx (by simp_all)]))
      · refine AQ.skip ?_
        refine AQ.block_n ?_
        refine AQ.then_n ?_
        refine AQ.region ?_
        refine AQ.add (.plain rfl) rfl rfl rfl (i64_id (by omega) (by omega)) ?_
        refine AQ.move (.plain rfl) rfl rfl ?_
        refine AQ.nil ?_
        exact AQ.again (Imm.le_refl _) (s + 1) (by omega) (by omega) ⟨rfl, rfl, rfl, rfl, trivial⟩ (by first | (rw [Int.toNat_natCast, mapped_set (fun i x => if x = 2 ∧ mget older i = 1 then 1 else x) hx (by simp [*])]) | (rw [mapped_same (fun i x => if x = 2 ∧ mget older i = 1 then 1 else x) hx (by simp_all)]))
    · refine AQ.off rfl rfl rfl rfl ?_
      refine AQ.off rfl rfl rfl rfl ?_
      refine AQ.off rfl rfl rfl rfl ?_
      refine AQ.off rfl rfl rfl rfl ?_
      refine AQ.pick_f (.plain rfl) rfl rfl rfl ?_
      refine AQ.nil ?_
      refine AQ.then_n ?_
      refine AQ.cond_f rfl ?_
      refine AQ.skip ?_
      refine AQ.block_n ?_
      refine AQ.then_n ?_
      refine AQ.region ?_
      refine AQ.add (.plain rfl) rfl rfl rfl (i64_id (by omega) (by omega)) ?_
      refine AQ.move (.plain rfl) rfl rfl ?_
      refine AQ.nil ?_
      exact AQ.again (Imm.le_refl _) (s + 1) (by omega) (by omega) ⟨rfl, rfl, rfl, rfl, trivial⟩ (by first | (rw [Int.toNat_natCast, mapped_set (fun i x => if x = 2 ∧ mget older i = 1 then 1 else x) hx (by simp [*])]) | (rw [mapped_same (fun i x => if x = 2 ∧ mget older i = 1 then 1 else x) hx (by simp_all)]))
  · refine AQ.exit ?_
    refine AQ.then_e ?_
    refine AQ.then_e ?_
    refine AQ.block_hit ?_
    refine AQ.then_n ?_
    refine AQ.seq ?_
    refine AQ.region ?_
    refine AQ.move (.plain rfl) rfl rfl ?_
    refine AQ.assign (.plain rfl) rfl rfl ?_
    refine AQ.nil ?_
    refine AQ.then_n ?_
    refine AQ.ret ?_
    exact AQ.done1 (Imm.le_refl _) Tryz.results137 rfl ⟨_, rfl, by rw [show s = (rowL newer).length by omega, mapped_all]; rfl⟩
end Go.Fx
set_option linter.unusedVariables false
set_option linter.unusedSimpArgs false
set_option maxRecDepth 100000
namespace Go.Fx
open Go Go.Proofs

theorem cloneBytes (l : List UInt8) (H : List HA) (y0 : l.length ≤ 1099511627776) : AC Tryz.prog 130 [.sl 1 (byteRows l)] (H) (fun r H' => ∃ v, r = .val v ∧ H' = .osl v 5 1 (byteRows l) :: H) := by
  refine AC.enter Tryz.func130 rfl Tryz.ntmps130 rfl (fun I0 => ?_)
  refine AQ.seq ?_
  refine AQ.region ?_
  refine AQ.assign (.plain rfl) rfl rfl ?_
  refine AQ.nil ?_
  refine AQ.then_n ?_
  refine AQ.seq ?_
  refine AQ.seq ?_
  refine AQ.region ?_
  refine AQ.move (.plain rfl) rfl rfl ?_
  refine AQ.sleq (.plain rfl) rfl rfl rfl Tryz.underlying28 (fun c1 hc1 => ?_)
  refine AQ.nil ?_
  refine AQ.then_n ?_
  refine AQ.cond rfl (fun h2 => ?_) (fun h2 => ?_)
  · refine AQ.seq ?_
    refine AQ.region ?_
    refine AQ.assign (.plain rfl) rfl rfl ?_
    refine AQ.nil ?_
    refine AQ.then_n ?_
    refine AQ.ret ?_
    refine AQ.then_r ?_
    refine AQ.ownNil (A := none) 5 1 ?_
    exact AQ.done1 (Imm.le_refl _) Tryz.results130 rfl ⟨_, rfl, by rw [hc1 (by assumption)]⟩
  · refine AQ.skip ?_
    refine AQ.then_n ?_
    refine AQ.seq ?_
    refine AQ.region ?_
    refine AQ.buildSlice (rows := []) (.plain rfl) rfl Tryz.underlying28 el5 zo5 rfl rfl rfl .nil rfl rfl (by simp) (fun u3 => ?_)
    refine AQ.move (.plain rfl) rfl rfl ?_
    refine AQ.append (.plain rfl) rfl 0 rfl (.sl rfl) rfl Tryz.underlying28 el5 rfl rfl (by simp only [List.length_cons, List.length_nil, List.length_map, List.length_append, List.length_range]; omega) (fun v4 => ?_)
    try simp only [List.set_cons_zero, List.set_cons_succ]
    refine AQ.assign (.plain rfl) rfl rfl ?_
    refine AQ.nil ?_
    refine AQ.then_n ?_
    refine AQ.ret ?_
    exact AQ.done1 (Imm.le_refl _) Tryz.results130 rfl ⟨_, rfl, rfl⟩
theorem cloneInts (l : List Int) (H : List HA) (y0 : l.length ≤ 1099511627776) : AC Tryz.prog 184 [.sl 1 (intRows l)] (H) (fun r H' => ∃ v, r = .val v ∧ H' = .osl v 3 1 (intRows l) :: H) := by
  refine AC.enter Tryz.func184 rfl Tryz.ntmps184 rfl (fun I0 => ?_)
  refine AQ.seq ?_
  refine AQ.region ?_
  refine AQ.assign (.plain rfl) rfl rfl ?_
  refine AQ.nil ?_
  refine AQ.then_n ?_
  refine AQ.seq ?_
  refine AQ.seq ?_
  refine AQ.region ?_
  refine AQ.move (.plain rfl) rfl rfl ?_
  refine AQ.sleq (.plain rfl) rfl rfl rfl Tryz.underlying38 (fun c1 hc1 => ?_)
  refine AQ.nil ?_
  refine AQ.then_n ?_
  refine AQ.cond rfl (fun h2 => ?_) (fun h2 => ?_)
  · refine AQ.seq ?_
    refine AQ.region ?_
    refine AQ.assign (.plain rfl) rfl rfl ?_
    refine AQ.nil ?_
    refine AQ.then_n ?_
    refine AQ.ret ?_
    refine AQ.then_r ?_
    refine AQ.ownNil (A := none) 3 1 ?_
    exact AQ.done1 (Imm.le_refl _) Tryz.results184 rfl ⟨_, rfl, by rw [hc1 (by assumption)]⟩
  · refine AQ.skip ?_
    refine AQ.then_n ?_
    refine AQ.seq ?_
    refine AQ.region ?_
    refine AQ.buildSlice (rows := []) (.plain rfl) rfl Tryz.underlying38 el3 zo3 rfl rfl rfl .nil rfl rfl (by simp) (fun u3 => ?_)
    refine AQ.move (.plain rfl) rfl rfl ?_
    refine AQ.append (.plain rfl) rfl 0 rfl (.sl rfl) rfl Tryz.underlying38 el3 rfl rfl (by simp only [List.length_cons, List.length_nil, List.length_map, List.length_append, List.length_range]; omega) (fun v4 => ?_)
    try simp only [List.set_cons_zero, List.set_cons_succ]
    refine AQ.assign (.plain rfl) rfl rfl ?_
    refine AQ.nil ?_
    refine AQ.then_n ?_
    refine AQ.ret ?_
    exact AQ.done1 (Imm.le_refl _) Tryz.results184 rfl ⟨_, rfl, rfl⟩
theorem wirePut (v : Value) (l : List UInt8) (w n : Int) (H : List HA) (y0 : l.length ≤ 1099511627776) : AC Tryz.prog 207 [.val v, I w, I n] ((.osl v 5 1 (byteRows l) :: H)) (fun r H' => ∃ v, r = .val v ∧ H' = .osl v 5 1 (byteRows (l ++ numB w n)) :: H) := by
  refine AC.enter Tryz.func207 rfl Tryz.ntmps207 rfl (fun I0 => ?_)
  have hw := wide_range w
  have hp := pow_range (k := (8 * wide w).toNat) (by omega)
  refine AQ.seq ?_
  refine AQ.region ?_
  refine AQ.assign (.plain rfl) rfl rfl ?_
  refine AQ.nil ?_
  refine AQ.then_n ?_
  refine AQ.seq ?_
  refine AQ.region ?_
  refine AQ.move (.plain rfl) rfl rfl ?_
  refine AQ.callf (.plain rfl) rfl rfl en209 (wireWide _ _) ?_
  refine AQ.assign (.plain rfl) rfl rfl ?_
  refine AQ.nil ?_
  refine AQ.then_n ?_
  refine AQ.seq ?_
  refine AQ.region ?_
  refine AQ.move (.plain rfl) rfl rfl ?_
  refine AQ.max2 (.plain rfl) rfl rfl rfl ?_
  refine AQ.move (.plain rfl) rfl rfl ?_
  refine AQ.mul (.plain rfl) rfl rfl rfl (i64_id (by omega) (by omega)) ?_
  refine AQ.conv (.plain rfl) rfl rfl Tryz.underlying3 Tryz.underlying211 (u64_id (by omega) (by omega)) ?_
  refine AQ.shl (.plain rfl) rfl rfl rfl (by omega) (by simp [IntKind.bits]; omega) (z := 2 ^ (8 * wide w).toNat) (by rw [Int.one_mul]; exact i64_id (by omega) (by omega)) ?_
  refine AQ.sub (.plain rfl) rfl rfl rfl (i64_id (by omega) (by omega)) ?_
  refine AQ.min2 (.plain rfl) rfl rfl rfl ?_
  refine AQ.assign (.plain rfl) rfl rfl ?_
  refine AQ.nil ?_
  refine AQ.then_n ?_
  refine AQ.seq ?_
  refine AQ.seq ?_
  refine AQ.region ?_
  refine AQ.move (.plain rfl) rfl rfl ?_
  refine AQ.move (.plain rfl) rfl rfl ?_
  refine AQ.nil ?_
  refine AQ.then_n ?_
  refine AQ.block ?_
  refine AQ.loop (σ := Value × Nat) (fun s => [(0, .val s.1), (2, I (numClamp w n)), (7, I (wide w)), (19, I (wide w)), (20, I (s.2 : Int))]) (fun s => .osl s.1 5 1 (byteRows (l ++ (List.range s.2).map (numAt w n))) :: H) (fun s => (s.2 : Int) ≤ wide w) (fun s => (wide w).toNat - s.2) (v, 0) (by simp; omega) ⟨rfl, rfl, rfl, rfl, rfl, trivial⟩ (by simp) (fun s hs => ?_)
  refine AQ.seq ?_
  refine AQ.region ?_
  refine AQ.lss (.plain rfl) rfl rfl rfl ?_
  refine AQ.nil ?_
  refine AQ.then_n ?_
  refine AQ.seq ?_
  refine AQ.cond_d rfl (fun h1 => ?_) (fun h1 => ?_)
  · refine AQ.skip ?_
    refine AQ.then_n ?_
    refine AQ.seq ?_
    refine AQ.block ?_
    refine AQ.seq ?_
    refine AQ.region ?_
    refine AQ.move (.plain rfl) rfl rfl ?_
    refine AQ.assign (.plain rfl) rfl rfl ?_
    refine AQ.nil ?_
    refine AQ.then_n ?_
    refine AQ.region ?_
    refine AQ.move (.plain rfl) rfl rfl ?_
    refine AQ.move (.plain rfl) rfl rfl ?_
    refine AQ.move (.plain rfl) rfl rfl ?_
    refine AQ.sub (.plain rfl) rfl rfl rfl (i64_id (by omega) (by omega)) ?_
    refine AQ.move (.plain rfl) rfl rfl ?_
    refine AQ.sub (.plain rfl) rfl rfl rfl (i64_id (by omega) (by omega)) ?_
    refine AQ.mul (.plain rfl) rfl rfl rfl (i64_id (by omega) (by omega)) ?_
    refine AQ.conv (.plain rfl) rfl rfl Tryz.underlying3 Tryz.underlying211 (u64_id (by omega) (by omega)) ?_
    refine AQ.shr (.plain rfl) rfl rfl rfl (by omega) (by simp [IntKind.bits]; omega) ?_
    refine AQ.conv (.plain rfl) rfl rfl Tryz.underlying3 Tryz.underlying5 (b8_wrap _) ?_
    refine AQ.buildSlice (rows := [[_]]) (.plain rfl) rfl Tryz.underlying28 el5 zo5 rfl rfl rfl (.one rfl (.val rfl) rfl rfl .nil) rfl rfl (by simp) (fun u2 => ?_)
    refine AQ.append (.plain rfl) rfl 1 rfl (.osl rfl 0 rfl) rfl Tryz.underlying28 el5 rfl rfl (by simp only [List.length_cons, List.length_nil, List.length_map, List.length_append, List.length_range]; omega) (fun v3 => ?_)
    try simp only [List.set_cons_zero, List.set_cons_succ]
    refine AQ.assign (.plain rfl) rfl rfl ?_
    refine AQ.nil ?_
    refine AQ.block_n ?_
    refine AQ.then_n ?_
    refine AQ.region ?_
    refine AQ.add (.plain rfl) rfl rfl rfl (i64_id (by omega) (by omega)) ?_
    refine AQ.move (.plain rfl) rfl rfl ?_
    refine AQ.nil ?_
    refine AQ.dropN 1 ?_
    refine AQ.eqH (H' := _ :: H) rfl ?_
    exact AQ.again (Imm.le_refl _) (_, s.2 + 1) (by simp only; omega) (by simp only; omega) ⟨rfl, rfl, rfl, rfl, rfl, trivial⟩ (by simp only [List.range_succ, List.map_append, ← List.append_assoc]; rfl)
  · refine AQ.exit ?_
    refine AQ.then_e ?_
    refine AQ.then_e ?_
    refine AQ.block_hit ?_
    refine AQ.then_n ?_
    refine AQ.seq ?_
    refine AQ.region ?_
    refine AQ.move (.plain rfl) rfl rfl ?_
    refine AQ.assign (.plain rfl) rfl rfl ?_
    refine AQ.nil ?_
    refine AQ.then_n ?_
    refine AQ.ret ?_
    exact AQ.done1 (Imm.le_refl _) Tryz.results207 rfl ⟨_, rfl, by rw [show s.2 = (wide w).toNat by omega]; rfl⟩
theorem wireNum (l : List UInt8) (w n : Int) (H : List HA) (y0 : l.length ≤ 1099511627776) : AC Tryz.prog 138 [bytes l, I w, I n] (H) (fun r H' => ∃ v, r = .val v ∧ H' = .osl v 5 1 (byteRows (l ++ numB w n)) :: H) := by
  refine AC.enter Tryz.func138 rfl Tryz.ntmps138 rfl (fun I0 => ?_)
  refine AQ.seq ?_
  refine AQ.region ?_
  refine AQ.assign (.plain rfl) rfl rfl ?_
  refine AQ.nil ?_
  refine AQ.then_n ?_
  refine AQ.seq ?_
  refine AQ.region ?_
  refine AQ.move (.plain rfl) rfl rfl ?_
  refine AQ.callo (.plain rfl) rfl rfl en130 (cloneBytes _ _ (by omega)) (fun v1 => ?_)
  refine AQ.move (.plain rfl) rfl rfl ?_
  refine AQ.move (.plain rfl) rfl rfl ?_
  refine AQ.callo (.plain rfl) rfl rfl en207 (wirePut _ _ _ _ _ (by omega)) (fun v2 => ?_)
  refine AQ.assign (.plain rfl) rfl rfl ?_
  refine AQ.nil ?_
  refine AQ.then_n ?_
  refine AQ.ret ?_
  exact AQ.done1 (Imm.le_refl _) Tryz.results138 rfl ⟨_, rfl, rfl⟩
theorem wireBlob (l x : List UInt8) (H : List HA) (y0 : l.length ≤ 1099511627776) : AC Tryz.prog 139 [bytes l, bytes x] (H) (fun r H' => ∃ v, r = .val v ∧ H' = .osl v 5 1 (byteRows (l ++ blobB x)) :: H) := by
  refine AC.enter Tryz.func139 rfl Tryz.ntmps139 rfl (fun I0 => ?_)
  refine AQ.seq ?_
  refine AQ.region ?_
  refine AQ.assign (.plain rfl) rfl rfl ?_
  refine AQ.nil ?_
  refine AQ.then_n ?_
  refine AQ.seq ?_
  refine AQ.region ?_
  refine AQ.move (.plain rfl) rfl rfl ?_
  refine AQ.move (.plain rfl) rfl rfl ?_
  refine AQ.lenz (.plain rfl) (.sl rfl) rfl Tryz.underlying28 (by first | (simp only [List.length_map]; rfl) | rfl) ?_
  refine AQ.min2 (.plain rfl) rfl rfl rfl ?_
  refine AQ.cutTo (.plain rfl) rfl rfl rfl Tryz.underlying28 ag5 (by omega) (by simp only [List.length_map]; omega) ?_
  rw [blob_take]
  refine AQ.assign (.plain rfl) rfl rfl ?_
  refine AQ.nil ?_
  refine AQ.then_n ?_
  refine AQ.seq ?_
  refine AQ.region ?_
  refine AQ.move (.plain rfl) rfl rfl ?_
  refine AQ.callo (.plain rfl) rfl rfl en130 (cloneBytes _ _ (by omega)) (fun v1 => ?_)
  refine AQ.move (.plain rfl) rfl rfl ?_
  refine AQ.lenz (.plain rfl) (.sl rfl) rfl Tryz.underlying28 (by first | (simp only [List.length_map]; rfl) | rfl) ?_
  refine AQ.callo (.plain rfl) rfl rfl en207 (wirePut _ _ _ _ _ (by omega)) (fun v2 => ?_)
  refine AQ.move (.plain rfl) rfl rfl ?_
  refine AQ.append (.plain rfl) rfl 0 rfl (.sl rfl) rfl Tryz.underlying28 el5 rfl rfl (by have h1 := numB_len 2 ((x.take 65535).length : Int); have h2 : (x.take 65535).length ≤ 65535 := (by simp; omega); have h3 : wide 2 = 2 := rfl; simp only [List.length_map, List.length_append]; omega) (fun v3 => ?_)
  try simp only [List.set_cons_zero, List.set_cons_succ]
  refine AQ.assign (.plain rfl) rfl rfl ?_
  refine AQ.nil ?_
  refine AQ.then_n ?_
  refine AQ.ret ?_
  exact AQ.done1 (Imm.le_refl _) Tryz.results139 rfl ⟨_, rfl, by unfold blobB; simp [byteRows]⟩
theorem readerFail (p : Nat) (r : Rdr) (e : Int) (H : List HA)  : AC Tryz.prog 144 [.val (.pointer (some ⟨p, 0, none⟩)), I e] ((.box p 267 r.cells :: H)) (fun x H' => x = .tup [] ∧ H' = .box p 267 (r.fail e).cells :: H) := by
  refine AC.enter Tryz.func144 rfl Tryz.ntmps144 rfl (fun I0 => ?_)
  refine AQ.seq ?_
  refine AQ.region ?_
  refine AQ.move (.plain rfl) rfl rfl ?_
  refine AQ.ptrne (.plain rfl) rfl rfl rfl Tryz.underlying205 ?_
  refine AQ.move (.plain rfl) rfl rfl ?_
  refine AQ.move (.on rfl rfl rfl) rfl rfl ?_
  refine AQ.nilCheck (.on rfl rfl rfl) rfl rfl ?_
  refine AQ.fieldv (.on rfl rfl rfl) rfl rfl fo267_1 rfl ?_
  refine AQ.loadv1 (.on rfl rfl rfl) rfl 0 rfl rfl ag45 rfl ?_
  refine AQ.eql (.on rfl rfl rfl) rfl rfl rfl ?_
  refine AQ.pick_t (.plain rfl) rfl rfl rfl ?_
  refine AQ.move (.plain rfl) rfl rfl ?_
  refine AQ.split (t := 13) rfl (fun h1 => ?_) (fun h1 => ?_)
  · refine AQ.move (.on rfl rfl rfl) rfl rfl ?_
    refine AQ.neq (.on rfl rfl rfl) rfl rfl rfl ?_
    refine AQ.pick_t (.plain rfl) rfl rfl rfl ?_
    refine AQ.nil ?_
    refine AQ.then_n ?_
    refine AQ.cond_d rfl (fun h2 => ?_) (fun h2 => ?_)
    · refine AQ.region ?_
      refine AQ.move (.plain rfl) rfl rfl ?_
      refine AQ.move (.plain rfl) rfl rfl ?_
      refine AQ.move (.plain rfl) rfl rfl ?_
      refine AQ.nilCheck (.plain rfl) rfl rfl ?_
      refine AQ.fieldv (.plain rfl) rfl rfl fo267_1 rfl ?_
      refine AQ.storev1 (.plain rfl) rfl 0 rfl rfl (.val rfl) ag45 rfl ?_
      try simp only [List.set_cons_zero, List.set_cons_succ]
      refine AQ.nilCheck (.plain rfl) rfl rfl ?_
      refine AQ.fieldv (.plain rfl) rfl rfl fo267_0 rfl ?_
      refine AQ.storev1 (.plain rfl) rfl 0 rfl rfl (.val rfl) ag28 rfl ?_
      try simp only [List.set_cons_zero, List.set_cons_succ]
      refine AQ.boxW (m := [bytes [], I _]) 0 rfl (by repeat (first | exact ImpL.nil | apply ImpL.same | apply ImpL.sl0)) ?_
      simp only [List.set_cons_zero, List.set_cons_succ]
      refine AQ.nil ?_
      exact AQ.doneN (ts := []) (Imm.le_refl _) Tryz.results144 rfl rfl ⟨rfl, by unfold Rdr.fail; rw [if_pos ⟨by assumption, by assumption⟩]⟩   -- !! body ends without ret
    · refine AQ.skip ?_
      exact AQ.doneN (ts := []) (Imm.le_refl _) Tryz.results144 rfl rfl ⟨rfl, by unfold Rdr.fail; rw [if_neg (by omega)]⟩   -- !! body ends without ret
  · refine AQ.off rfl rfl rfl rfl ?_
    refine AQ.off rfl rfl rfl rfl ?_
    refine AQ.pick_f (.plain rfl) rfl rfl rfl ?_
    refine AQ.nil ?_
    refine AQ.then_n ?_
    refine AQ.cond_f rfl ?_
    refine AQ.skip ?_
    exact AQ.doneN (ts := []) (Imm.le_refl _) Tryz.results144 rfl rfl ⟨rfl, by unfold Rdr.fail; rw [if_neg (by omega)]⟩   -- !! body ends without ret
theorem readerErr (p : Nat) (r : Rdr) (H : List HA)  : AC Tryz.prog 145 [.val (.pointer (some ⟨p, 0, none⟩))] ((.box p 267 r.cells :: H)) (fun r' H' => r' = (I r.e) ∧ H' = .box p 267 r.cells :: H) := by
  refine AC.enter Tryz.func145 rfl Tryz.ntmps145 rfl (fun I0 => ?_)
  refine AQ.seq ?_
  refine AQ.region ?_
  refine AQ.assign (.plain rfl) rfl rfl ?_
  refine AQ.nil ?_
  refine AQ.then_n ?_
  refine AQ.seq ?_
  refine AQ.seq ?_
  refine AQ.region ?_
  refine AQ.move (.plain rfl) rfl rfl ?_
  refine AQ.ptreq (.plain rfl) rfl rfl rfl Tryz.underlying205 ?_
  refine AQ.nil ?_
  refine AQ.then_n ?_
  refine AQ.cond_f rfl ?_
  refine AQ.skip ?_
  refine AQ.then_n ?_
  refine AQ.seq ?_
  refine AQ.region ?_
  refine AQ.move (.plain rfl) rfl rfl ?_
  refine AQ.nilCheck (.plain rfl) rfl rfl ?_
  refine AQ.fieldv (.plain rfl) rfl rfl fo267_1 rfl ?_
  refine AQ.loadv1 (.plain rfl) rfl 0 rfl rfl ag45 rfl ?_
  refine AQ.assign (.plain rfl) rfl rfl ?_
  refine AQ.nil ?_
  refine AQ.then_n ?_
  refine AQ.ret ?_
  exact AQ.done1 (Imm.le_refl _) Tryz.results145 rfl ⟨rfl, rfl⟩
theorem readerLeft (p : Nat) (r : Rdr) (H : List HA)  : AC Tryz.prog 212 [.val (.pointer (some ⟨p, 0, none⟩))] ((.box p 267 r.cells :: H)) (fun r' H' => r' = (I (r.b.length : Int)) ∧ H' = .box p 267 r.cells :: H) := by
  refine AC.enter Tryz.func212 rfl Tryz.ntmps212 rfl (fun I0 => ?_)
  refine AQ.seq ?_
  refine AQ.region ?_
  refine AQ.assign (.plain rfl) rfl rfl ?_
  refine AQ.nil ?_
  refine AQ.then_n ?_
  refine AQ.seq ?_
  refine AQ.seq ?_
  refine AQ.region ?_
  refine AQ.move (.plain rfl) rfl rfl ?_
  refine AQ.ptreq (.plain rfl) rfl rfl rfl Tryz.underlying205 ?_
  refine AQ.nil ?_
  refine AQ.then_n ?_
  refine AQ.cond_f rfl ?_
  refine AQ.skip ?_
  refine AQ.then_n ?_
  refine AQ.seq ?_
  refine AQ.region ?_
  refine AQ.move (.plain rfl) rfl rfl ?_
  refine AQ.nilCheck (.plain rfl) rfl rfl ?_
  refine AQ.fieldv (.plain rfl) rfl rfl fo267_0 rfl ?_
  refine AQ.loadv1 (.plain rfl) rfl 0 rfl rfl ag28 rfl ?_
  refine AQ.lenz (.plain rfl) (.sl rfl) rfl Tryz.underlying28 (by first | (simp only [List.length_map]; rfl) | rfl) ?_
  refine AQ.assign (.plain rfl) rfl rfl ?_
  refine AQ.nil ?_
  refine AQ.then_n ?_
  refine AQ.ret ?_
  exact AQ.done1 (Imm.le_refl _) Tryz.results212 rfl ⟨rfl, rfl⟩
theorem readerEnd (p : Nat) (r : Rdr) (H : List HA)  : AC Tryz.prog 146 [.val (.pointer (some ⟨p, 0, none⟩))] ((.box p 267 r.cells :: H)) (fun x H' => x = I r.end_.e ∧ H' = .box p 267 r.end_.cells :: H) := by
  refine AC.enter Tryz.func146 rfl Tryz.ntmps146 rfl (fun I0 => ?_)
  refine AQ.seq ?_
  refine AQ.region ?_
  refine AQ.assign (.plain rfl) rfl rfl ?_
  refine AQ.nil ?_
  refine AQ.then_n ?_
  refine AQ.seq ?_
  refine AQ.seq ?_
  refine AQ.region ?_
  refine AQ.move (.plain rfl) rfl rfl ?_
  refine AQ.callf (.plain rfl) rfl rfl en212 (readerLeft _ _ _) ?_
  refine AQ.gtr (.plain rfl) rfl rfl rfl ?_
  refine AQ.nil ?_
  refine AQ.then_n ?_
  refine AQ.cond_d rfl (fun h1 => ?_) (fun h1 => ?_)
  · refine AQ.region ?_
    refine AQ.move (.plain rfl) rfl rfl ?_
    refine AQ.callf (.plain rfl) rfl rfl en144 (readerFail _ _ _ _) ?_
    refine AQ.nil ?_
    refine AQ.then_n ?_
    refine AQ.seq ?_
    refine AQ.region ?_
    refine AQ.move (.plain rfl) rfl rfl ?_
    refine AQ.callf (.plain rfl) rfl rfl en145 (readerErr _ _ _) ?_
    refine AQ.assign (.plain rfl) rfl rfl ?_
    refine AQ.nil ?_
    refine AQ.then_n ?_
    refine AQ.ret ?_
    exact AQ.done1 (Imm.le_refl _) Tryz.results146 rfl ⟨by unfold Rdr.end_; first | rw [if_pos (by omega)] | rw [if_neg (by omega)], by unfold Rdr.end_; first | rw [if_pos (by omega)] | rw [if_neg (by omega)]⟩
  · refine AQ.skip ?_
    refine AQ.then_n ?_
    refine AQ.seq ?_
    refine AQ.region ?_
    refine AQ.move (.plain rfl) rfl rfl ?_
    refine AQ.callf (.plain rfl) rfl rfl en145 (readerErr _ _ _) ?_
    refine AQ.assign (.plain rfl) rfl rfl ?_
    refine AQ.nil ?_
    refine AQ.then_n ?_
    refine AQ.ret ?_
    exact AQ.done1 (Imm.le_refl _) Tryz.results146 rfl ⟨by unfold Rdr.end_; first | rw [if_pos (by omega)] | rw [if_neg (by omega)], by unfold Rdr.end_; first | rw [if_pos (by omega)] | rw [if_neg (by omega)]⟩
theorem wireRead (b : List UInt8) (H : List HA) (y0 : b.length ≤ 1099511627776) : AC Tryz.prog 141 [bytes b] (H) (fun x H' => ∃ p : Nat, x = .val (.pointer (some ⟨p, 0, none⟩)) ∧ H' = .box p 267 (⟨b, 0⟩ : Rdr).cells :: H) := by
  refine AC.enter Tryz.func141 rfl Tryz.ntmps141 rfl (fun I0 => ?_)
  refine AQ.seq ?_
  refine AQ.region ?_
  refine AQ.assign (.plain rfl) rfl rfl ?_
  refine AQ.nil ?_
  refine AQ.then_n ?_
  refine AQ.seq ?_
  refine AQ.region ?_
  refine AQ.move (.plain rfl) rfl rfl ?_
  refine AQ.callo (.plain rfl) rfl rfl en130 (cloneBytes _ _ (by omega)) (fun v1 => ?_)
  refine AQ.freeze 0 rfl (fun J2 hJ2 hp2 => ?_)
  refine AQ.as (t := 4) rfl hp2 ?_
  refine AQ.build (.plain rfl) rfl zo267 rfl pl267 (.one rfl .sl rfl rfl .nil) ?_
  refine AQ.boxA (.plain rfl) rfl rfl (fun b3 => ?_)
  refine AQ.assign (.plain rfl) rfl rfl ?_
  refine AQ.nil ?_
  refine AQ.then_n ?_
  refine AQ.ret ?_
  exact AQ.done1 hJ2 Tryz.results141 rfl ⟨_, rfl, rfl⟩
end Go.Fx
set_option linter.unusedVariables false
set_option linter.unusedSimpArgs false
set_option maxRecDepth 100000
namespace Go.Fx
open Go Go.Proofs

theorem readerTake (p : Nat) (r : Rdr) (n : Int) (H : List HA) (y0 : 0 ≤ n) (y1 : n ≤ 1000000) : AC Tryz.prog 208 [.val (.pointer (some ⟨p, 0, none⟩)), I n, .val (.func (.func 144) [Value.pointer (some ⟨p, 0, none⟩)].toArray ([] : List Value).toArray)] ((.box p 267 r.cells :: H)) (fun x H' => ∃ v, x = .val v ∧ H' = .osl v 5 1 (byteRows (r.take n).2) :: .box p 267 (r.take n).1.cells :: H) := by
  refine AC.enter Tryz.func208 rfl Tryz.ntmps208 rfl (fun I0 => ?_)
  refine AQ.seq ?_
  refine AQ.region ?_
  refine AQ.assign (.plain rfl) rfl rfl ?_
  refine AQ.nil ?_
  refine AQ.then_n ?_
  refine AQ.seq ?_
  refine AQ.seq ?_
  refine AQ.region ?_
  refine AQ.move (.plain rfl) rfl rfl ?_
  refine AQ.ptreq (.plain rfl) rfl rfl rfl Tryz.underlying205 ?_
  refine AQ.move (.plain rfl) rfl rfl ?_
  refine AQ.move (.on rfl rfl rfl) rfl rfl ?_
  refine AQ.nilCheck (.on rfl rfl rfl) rfl rfl ?_
  refine AQ.fieldv (.on rfl rfl rfl) rfl rfl fo267_1 rfl ?_
  refine AQ.loadv1 (.on rfl rfl rfl) rfl 0 rfl rfl ag45 rfl ?_
  refine AQ.neq (.on rfl rfl rfl) rfl rfl rfl ?_
  refine AQ.pick_f (.plain rfl) rfl rfl rfl ?_
  refine AQ.nil ?_
  refine AQ.then_n ?_
  refine AQ.cond_d rfl (fun h1 => ?_) (fun h1 => ?_)
  · refine AQ.seq ?_
    refine AQ.region ?_
    refine AQ.assign (.plain rfl) rfl rfl ?_
    refine AQ.nil ?_
    refine AQ.then_n ?_
    refine AQ.ret ?_
    refine AQ.then_r ?_
    refine AQ.ownNil (A := none) 5 1 ?_
    exact AQ.done1 (Imm.le_refl _) Tryz.results208 rfl ⟨_, rfl, by rw [show r.take n = (r, []) from if_pos (by assumption)]; rfl⟩
  · refine AQ.skip ?_
    refine AQ.then_n ?_
    refine AQ.seq ?_
    refine AQ.seq ?_
    refine AQ.region ?_
    refine AQ.move (.plain rfl) rfl rfl ?_
    refine AQ.nilCheck (.plain rfl) rfl rfl ?_
    refine AQ.fieldv (.plain rfl) rfl rfl fo267_0 rfl ?_
    refine AQ.loadv1 (.plain rfl) rfl 0 rfl rfl ag28 rfl ?_
    refine AQ.lenz (.plain rfl) (.sl rfl) rfl Tryz.underlying28 (by first | (simp only [List.length_map]; rfl) | rfl) ?_
    refine AQ.move (.plain rfl) rfl rfl ?_
    refine AQ.lss (.plain rfl) rfl rfl rfl ?_
    refine AQ.nil ?_
    refine AQ.then_n ?_
    refine AQ.cond_d rfl (fun h2 => ?_) (fun h2 => ?_)
    · refine AQ.seq ?_
      refine AQ.region ?_
      refine AQ.move (.plain rfl) rfl rfl ?_
      refine AQ.callvf (first := [_]) (cap := []) (.plain rfl) rfl rfl rfl en144 (readerFail _ _ _ _) ?_
      refine AQ.nil ?_
      refine AQ.then_n ?_
      refine AQ.seq ?_
      refine AQ.region ?_
      refine AQ.assign (.plain rfl) rfl rfl ?_
      refine AQ.nil ?_
      refine AQ.then_n ?_
      refine AQ.ret ?_
      refine AQ.then_r ?_
      refine AQ.ownNil (A := none) 5 1 ?_
      exact AQ.done1 (Imm.le_refl _) Tryz.results208 rfl ⟨_, rfl, by rw [show r.take n = (r.fail 10, []) from by unfold Rdr.take; rw [if_neg (by assumption), if_pos (by omega)]]; rfl⟩
    · refine AQ.skip ?_
      refine AQ.then_n ?_
      refine AQ.seq ?_
      refine AQ.region ?_
      refine AQ.move (.plain rfl) rfl rfl ?_
      refine AQ.makeSlice (.plain rfl) rfl rfl rfl Tryz.underlying28 el5 zo5 rfl rfl (by omega) (by omega) (by omega) (fun v3 => ?_)
      refine AQ.assign (.plain rfl) rfl rfl ?_
      refine AQ.nil ?_
      refine AQ.then_n ?_
      refine AQ.seq ?_
      refine AQ.region ?_
      refine AQ.move (.plain rfl) rfl rfl ?_
      refine AQ.move (.plain rfl) rfl rfl ?_
      refine AQ.nilCheck (.plain rfl) rfl rfl ?_
      refine AQ.fieldv (.plain rfl) rfl rfl fo267_0 rfl ?_
      refine AQ.loadv1 (.plain rfl) rfl 1 rfl rfl ag28 rfl ?_
      refine AQ.copy (.plain rfl) rfl 0 rfl (.sl rfl) rfl Tryz.underlying28 ag5 (q := n.toNat) (by simp only [List.length_map, List.length_replicate]; omega) (new := byteRows (r.b.take n.toNat)) (by rw [List.drop_of_length_le (by simp), List.append_nil, ← List.map_take]) ?_
      try simp only [List.set_cons_zero, List.set_cons_succ]
      refine AQ.nil ?_
      refine AQ.then_n ?_
      refine AQ.seq ?_
      refine AQ.region ?_
      refine AQ.move (.plain rfl) rfl rfl ?_
      refine AQ.move (.plain rfl) rfl rfl ?_
      refine AQ.nilCheck (.plain rfl) rfl rfl ?_
      refine AQ.fieldv (.plain rfl) rfl rfl fo267_0 rfl ?_
      refine AQ.loadv1 (.plain rfl) rfl 1 rfl rfl ag28 rfl ?_
      refine AQ.move (.plain rfl) rfl rfl ?_
      refine AQ.cutFrom (.plain rfl) rfl rfl rfl Tryz.underlying28 ag5 (by omega) (by simp only [List.length_map]; omega) ?_
      rw [← List.map_drop]
      refine AQ.nilCheck (.plain rfl) rfl rfl ?_
      refine AQ.fieldv (.plain rfl) rfl rfl fo267_0 rfl ?_
      refine AQ.storev1 (.plain rfl) rfl 1 rfl rfl .sl ag28 rfl ?_
      try simp only [List.set_cons_zero, List.set_cons_succ]
      refine AQ.nil ?_
      refine AQ.then_n ?_
      refine AQ.seq ?_
      refine AQ.region ?_
      refine AQ.move (.plain rfl) rfl rfl ?_
      refine AQ.assign (.plain rfl) rfl rfl ?_
      refine AQ.nil ?_
      refine AQ.then_n ?_
      refine AQ.ret ?_
      exact AQ.done1 (Imm.le_refl _) Tryz.results208 rfl ⟨_, rfl, by rw [show r.take n = (⟨r.b.drop n.toNat, r.e⟩, r.b.take n.toNat) from by unfold Rdr.take; rw [if_neg (by assumption), if_neg (by omega)]]; rfl⟩
theorem readerNum (p : Nat) (r : Rdr) (width : Int) (H : List HA)  : AC Tryz.prog 142 [.val (.pointer (some ⟨p, 0, none⟩)), I width] ((.box p 267 r.cells :: H)) (fun x H' => x = I (r.num width).2 ∧ H' = .box p 267 (r.num width).1.cells :: H) := by
  refine AC.enter Tryz.func142 rfl Tryz.ntmps142 rfl (fun I0 => ?_)
  have hw := wide_range width
  have hl := r.take_len (wide width)
  refine AQ.seq ?_
  refine AQ.region ?_
  refine AQ.assign (.plain rfl) rfl rfl ?_
  refine AQ.nil ?_
  refine AQ.then_n ?_
  refine AQ.seq ?_
  refine AQ.region ?_
  refine AQ.assign (.plain rfl) rfl rfl ?_
  refine AQ.nil ?_
  refine AQ.then_n ?_
  refine AQ.seq ?_
  refine AQ.seq ?_
  refine AQ.region ?_
  refine AQ.move (.plain rfl) rfl rfl ?_
  refine AQ.move (.plain rfl) rfl rfl ?_
  refine AQ.callf (.plain rfl) rfl rfl en209 (wireWide _ _) ?_
  refine AQ.move (.plain rfl) rfl rfl ?_
  refine AQ.makeFunc (fs := [_]) (cs := []) (.plain rfl) rfl rfl rfl ?_
  refine AQ.callo (.plain rfl) rfl rfl en208 (readerTake _ _ _ _ (by omega) (by omega)) (fun v1 => ?_)
  refine AQ.lenz (.plain rfl) (.osl rfl 0 rfl) rfl Tryz.underlying28 (by first | (simp only [List.length_map]; rfl) | rfl) ?_
  refine AQ.move (.plain rfl) rfl rfl ?_
  refine AQ.nil ?_
  refine AQ.then_n ?_
  refine AQ.block ?_
  refine AQ.loop (σ := Nat) (fun s => [(5, I (beNum ((r.take (wide width)).2.take s))), (13, .val v1), (14, I ((r.take (wide width)).2.length : Int)), (15, I (s : Int))]) (fun s => .osl v1 5 1 (byteRows (r.take (wide width)).2) :: .box p 267 (r.take (wide width)).1.cells :: H) (fun s => s ≤ (r.take (wide width)).2.length) (fun s => (r.take (wide width)).2.length - s) 0 (by simp) ⟨rfl, rfl, rfl, rfl, trivial⟩ rfl (fun s hs => ?_)
  refine AQ.seq ?_
  refine AQ.region ?_
  refine AQ.lss (.plain rfl) rfl rfl rfl ?_
  refine AQ.nil ?_
  refine AQ.then_n ?_
  refine AQ.seq ?_
  refine AQ.cond_d rfl (fun h2 => ?_) (fun h2 => ?_)
  · refine AQ.skip ?_
    refine AQ.then_n ?_
    refine AQ.seq ?_
    refine AQ.block ?_
    refine AQ.seq ?_
    refine AQ.region ?_
    obtain ⟨x, hx⟩ := lgetz (l := (r.take (wide width)).2) (z := (s : Int)) (by omega) (by omega)
    refine AQ.indexo (.plain rfl) rfl 0 rfl rfl rfl Tryz.underlying28 ag5 (by omega) (by simp only [List.length_map]; omega) ?_
    have hb := (beNum_range ((r.take (wide width)).2.take s)).1
    have hc := beNum_small (l := (r.take (wide width)).2.take s) (k := 6) (by rw [List.length_take]; omega)
    rw [Int.toNat_natCast] at hx
    refine AQ.loado1 (.plain rfl) rfl 0 rfl _ 0 rfl (byteRows_getz hx) rfl rfl ag5  ?_
    refine AQ.assign (.plain rfl) rfl rfl ?_
    refine AQ.nil ?_
    refine AQ.then_n ?_
    refine AQ.region ?_
    refine AQ.move (.plain rfl) rfl rfl ?_
    refine AQ.shl (.plain rfl) rfl rfl rfl (by omega) (by simp [IntKind.bits]) (z := beNum ((r.take (wide width)).2.take s) * 256) (by rw [show (2 : Int) ^ (8 : Int).toNat = 256 by decide]; exact i64_id (by omega) (by omega)) ?_
    refine AQ.move (.plain rfl) rfl rfl ?_
    refine AQ.conv (.plain rfl) rfl rfl Tryz.underlying5 Tryz.underlying3 (u8_i64 _) ?_
    refine AQ.bits .or (by simp) (.plain rfl) rfl rfl rfl (i64_join x (by omega) (by omega)) ?_
    refine AQ.assign (.plain rfl) rfl rfl ?_
    refine AQ.nil ?_
    refine AQ.eqv (t := 5) (u := .int .i64 (beNum ((r.take (wide width)).2.take (s + 1)))) rfl (by rw [beNum_step hx]) ?_
    refine AQ.block_n ?_
    refine AQ.then_n ?_
    refine AQ.region ?_
    refine AQ.add (.plain rfl) rfl rfl rfl (i64_id (by omega) (by omega)) ?_
    refine AQ.move (.plain rfl) rfl rfl ?_
    refine AQ.nil ?_
    exact AQ.again (Imm.le_refl _) (s + 1) (by omega) (by omega) ⟨rfl, rfl, rfl, rfl, trivial⟩ rfl
  · refine AQ.exit ?_
    refine AQ.then_e ?_
    refine AQ.then_e ?_
    refine AQ.block_hit ?_
    refine AQ.then_n ?_
    refine AQ.seq ?_
    refine AQ.region ?_
    refine AQ.move (.plain rfl) rfl rfl ?_
    refine AQ.assign (.plain rfl) rfl rfl ?_
    refine AQ.nil ?_
    refine AQ.then_n ?_
    refine AQ.ret ?_
    refine AQ.dropN 1 ?_
    refine AQ.eqH (H' := _ :: H) rfl ?_
    exact AQ.done1 (Imm.le_refl _) Tryz.results142 rfl ⟨by rw [List.take_of_length_le (by omega)]; rfl, rfl⟩
theorem readerBlob (p : Nat) (r : Rdr) (most : Int) (H : List HA)  : AC Tryz.prog 210 [.val (.pointer (some ⟨p, 0, none⟩)), I most] ((.box p 267 r.cells :: H)) (fun x H' => ∃ v, x = .val v ∧ H' = .osl v 5 1 (byteRows (r.blob most).2) :: .box p 267 (r.blob most).1.cells :: H) := by
  refine AC.enter Tryz.func210 rfl Tryz.ntmps210 rfl (fun I0 => ?_)
  have hr := r.num_range (w := 2) (k := 2) (by decide)
  refine AQ.seq ?_
  refine AQ.region ?_
  refine AQ.assign (.plain rfl) rfl rfl ?_
  refine AQ.nil ?_
  refine AQ.then_n ?_
  refine AQ.seq ?_
  refine AQ.region ?_
  refine AQ.move (.plain rfl) rfl rfl ?_
  refine AQ.callf (.plain rfl) rfl rfl en142 (readerNum _ _ _ _) ?_
  refine AQ.assign (.plain rfl) rfl rfl ?_
  refine AQ.nil ?_
  refine AQ.then_n ?_
  refine AQ.seq ?_
  refine AQ.seq ?_
  refine AQ.region ?_
  refine AQ.move (.plain rfl) rfl rfl ?_
  refine AQ.move (.plain rfl) rfl rfl ?_
  refine AQ.max2 (.plain rfl) rfl rfl rfl ?_
  refine AQ.gtr (.plain rfl) rfl rfl rfl ?_
  refine AQ.nil ?_
  refine AQ.then_n ?_
  refine AQ.cond_d rfl (fun h1 => ?_) (fun h1 => ?_)
  · refine AQ.region ?_
    refine AQ.move (.plain rfl) rfl rfl ?_
    refine AQ.callf (.plain rfl) rfl rfl en144 (readerFail _ _ _ _) ?_
    refine AQ.nil ?_
    refine AQ.then_n ?_
    refine AQ.seq ?_
    refine AQ.region ?_
    refine AQ.move (.plain rfl) rfl rfl ?_
    refine AQ.move (.plain rfl) rfl rfl ?_
    refine AQ.move (.plain rfl) rfl rfl ?_
    refine AQ.makeFunc (fs := [_]) (cs := []) (.plain rfl) rfl rfl rfl ?_
    refine AQ.callo (.plain rfl) rfl rfl en208 (readerTake _ _ _ _ (by omega) (by omega)) (fun v2 => ?_)
    refine AQ.assign (.plain rfl) rfl rfl ?_
    refine AQ.nil ?_
    refine AQ.then_n ?_
    refine AQ.ret ?_
    exact AQ.done1 (Imm.le_refl _) Tryz.results210 rfl ⟨_, rfl, by unfold Rdr.blob; simp only; first | rw [if_pos (by omega)] | rw [if_neg (by omega)]⟩
  · refine AQ.skip ?_
    refine AQ.then_n ?_
    refine AQ.seq ?_
    refine AQ.region ?_
    refine AQ.move (.plain rfl) rfl rfl ?_
    refine AQ.move (.plain rfl) rfl rfl ?_
    refine AQ.move (.plain rfl) rfl rfl ?_
    refine AQ.makeFunc (fs := [_]) (cs := []) (.plain rfl) rfl rfl rfl ?_
    refine AQ.callo (.plain rfl) rfl rfl en208 (readerTake _ _ _ _ (by omega) (by omega)) (fun v3 => ?_)
    refine AQ.assign (.plain rfl) rfl rfl ?_
    refine AQ.nil ?_
    refine AQ.then_n ?_
    refine AQ.ret ?_
    exact AQ.done1 (Imm.le_refl _) Tryz.results210 rfl ⟨_, rfl, by unfold Rdr.blob; simp only; first | rw [if_pos (by omega)] | rw [if_neg (by omega)]⟩
theorem objmapUnpack1 (b : Nat) (l : List UInt8) (i : Nat) (H : List HA) (y0 : 2 + i / 4 < l.length) (y1 : i < 10000) : AC Tryz.prog 246 [I (i : Int), .val (.pointer (some ⟨b, 0, none⟩))] ((.box b 28 [bytes l] :: H)) (fun r' H' => r' = (I (unpAt l i)) ∧ H' = .box b 28 [bytes l] :: H) := by
  refine AC.enter Tryz.func246 rfl Tryz.ntmps246 rfl (fun I0 => ?_)
  obtain ⟨x, hx⟩ := lget y0
  refine AQ.seq ?_
  refine AQ.region ?_
  refine AQ.assign (.plain rfl) rfl rfl ?_
  refine AQ.nil ?_
  refine AQ.then_n ?_
  refine AQ.seq ?_
  refine AQ.region ?_
  refine AQ.loadv1 (.plain rfl) rfl 0 rfl rfl ag28 rfl ?_
  refine AQ.move (.plain rfl) rfl rfl ?_
  refine AQ.quo (.plain rfl) rfl rfl rfl (by omega) (tdiv_pos (by omega) (by omega) (by omega)) ?_
  refine AQ.add (.plain rfl) rfl rfl rfl (i64_id (by omega) (by omega)) ?_
  refine AQ.indexAddr (.plain rfl) rfl rfl rfl Tryz.underlying28 ag5 (by omega) (byteRows_getz (by rw [show (2 + (i : Int) / 4).toNat = 2 + i / 4 by omega]; exact hx)) ?_
  refine AQ.load1 (.plain rfl) rfl rfl ag5 rfl ?_
  refine AQ.move (.plain rfl) rfl rfl ?_
  refine AQ.rem (.plain rfl) rfl rfl rfl (by omega) (tmod_pos (by omega)) ?_
  refine AQ.mul (.plain rfl) rfl rfl rfl (i64_id (by omega) (by omega)) ?_
  refine AQ.conv (.plain rfl) rfl rfl Tryz.underlying3 Tryz.underlying211 (u64_id (by omega) (by omega)) ?_
  refine AQ.shr (.plain rfl) rfl rfl rfl (by omega) (by simp [IntKind.bits]; omega) ?_
  have hq := unp_shr x i
  refine AQ.conv (.plain rfl) rfl rfl Tryz.underlying5 Tryz.underlying3 (i64_id (by omega) (by omega)) ?_
  refine AQ.bits .and (by simp) (.plain rfl) rfl rfl rfl (i64_and3 (by omega) (by omega)) ?_
  refine AQ.assign (.plain rfl) rfl rfl ?_
  refine AQ.nil ?_
  refine AQ.then_n ?_
  refine AQ.ret ?_
  exact AQ.done1 (Imm.le_refl _) Tryz.results246 rfl ⟨(I_c (unp_eq hx)), rfl⟩
theorem objmapUnpack2 (n : Int) (H : List HA)  : AC Tryz.prog 247 [I n] (H) (fun r' H' => r' = (B (n ≠ 0)) ∧ H' = H) := by
  refine AC.enter Tryz.func247 rfl Tryz.ntmps247 rfl (fun I0 => ?_)
  refine AQ.seq ?_
  refine AQ.region ?_
  refine AQ.assign (.plain rfl) rfl rfl ?_
  refine AQ.nil ?_
  refine AQ.then_n ?_
  refine AQ.seq ?_
  refine AQ.region ?_
  refine AQ.move (.plain rfl) rfl rfl ?_
  refine AQ.neq (.plain rfl) rfl rfl rfl ?_
  refine AQ.assign (.plain rfl) rfl rfl ?_
  refine AQ.nil ?_
  refine AQ.then_n ?_
  refine AQ.ret ?_
  exact AQ.done1 (Imm.le_refl _) Tryz.results247 rfl ⟨rfl, rfl⟩
end Go.Fx
