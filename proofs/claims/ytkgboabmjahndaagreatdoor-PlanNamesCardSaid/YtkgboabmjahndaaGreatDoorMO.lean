/- Proved: the row of terrazzolaw19.PlanNames, whatever the input. -/
import Derived.Test.YtkgboabmjahndaaGreatDoorMN
import Derived.Test.YtkgboabmjahndaaGreatDoorPNFA
import Derived.Test.YtkgboabmjahndaaGreatDoorPNFB
import Derived.Test.YtkgboabmjahndaaGreatDoorPNFC
import Derived.Test.YtkgboabmjahndaaGreatDoorPNFD
set_option linter.unusedVariables false
set_option maxRecDepth 100000
namespace Go.Proofs.YtkgboabmjahndaaGreatDoor
open Go Go.Fx
theorem planNames_facts : joinedFacts Tryz.prog 5 Tryz.f5 Rows.planNamesSpec Rows.planNamesRow = true := by
  unfold joinedFacts
  rw [planNames_factA, planNames_factB, planNames_factC, planNames_factD]
  kernel_rfl
theorem planNames_said : Rows.PlanNamesSaid :=
  OpenClaim.holds_of_wide 5 Tryz.f5 rfl rfl rfl rfl rfl rfl rfl ⟨rfl, rfl, rfl, rfl, rfl⟩ rfl rfl rfl rfl rfl (by kernel_rfl) Tryz.func5 planNames_facts
    (of_decide_eq_true (by kernel_rfl)) (by unfold Func.isWrapper; rw [if_neg (of_decide_eq_false (by kernel_rfl))]; exact ⟨rfl, rfl⟩)
    (fun os started H enc _ => planNames_lifted os started H enc)
end Go.Proofs.YtkgboabmjahndaaGreatDoor
