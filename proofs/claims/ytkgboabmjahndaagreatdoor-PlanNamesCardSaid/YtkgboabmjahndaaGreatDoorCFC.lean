/- Closed facts of the program and of the row of PlanNames: well formed, the main package, no stand-ins. -/
import Derived.Test.YtkgboabmjahndaaGreatDoorRows
import Derived.Test.YtkgboabmjahndaaGreatDoorChecked
import Derived.Test.YtkgboabmjahndaaGreatDoorCards
import Derived.SevenTiedAt
set_option maxRecDepth 100000
namespace Go.Proofs.YtkgboabmjahndaaGreatDoor
open Go
theorem seat_main : Tryz.prog.mainIs = some (true, "2f29aa6f169e7a5c0faeb80b000d60bc5a0336933f5ff2fad29a6f4fe766f921".toList) := by kernel_rfl
theorem planNames_wf : Rows.planNamesRow.wfByText (OpenSpec.ofChange Rows.planNamesSpec) = true := by kernel_rfl
theorem seat_stand3 : Tryz.prog.wantsStandIn 3 = false := by kernel_rfl
theorem seat_stand41 : Tryz.prog.wantsStandIn 41 = false := by kernel_rfl
theorem planNames_named : Tryz.prog.funcNamed "terrazzo/terrazzolaw19.PlanNames" = some 5 := by kernel_rfl
end Go.Proofs.YtkgboabmjahndaaGreatDoor
