/- A closed fact of PlanNames's row: what the program says of the function is what the row says ('inPlace'). -/
import Derived.Test.YtkgboabmjahndaaGreatDoorRows
import Derived.Test.YtkgboabmjahndaaGreatDoorChecked
set_option maxRecDepth 100000
namespace Go.Proofs.YtkgboabmjahndaaGreatDoor
open Go
theorem planNames_factA : (Rows.planNamesRow.inPlace == Tryz.prog.inPlace 5) = true := by kernel_rfl
end Go.Proofs.YtkgboabmjahndaaGreatDoor
