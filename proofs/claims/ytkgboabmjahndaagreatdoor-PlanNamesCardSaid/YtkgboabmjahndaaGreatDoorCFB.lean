/- A closed fact of the row of PlanNames: no goes. -/
import Derived.Test.YtkgboabmjahndaaGreatDoorRows
import Derived.Test.YtkgboabmjahndaaGreatDoorChecked
import Derived.Test.YtkgboabmjahndaaGreatDoorCards
import Derived.SevenTiedAt
set_option maxRecDepth 100000
namespace Go.Proofs.YtkgboabmjahndaaGreatDoor
open Go
theorem planNames_goes : Rows.planNamesRow.goesBy Tryz.prog = false := by kernel_rfl
end Go.Proofs.YtkgboabmjahndaaGreatDoor
