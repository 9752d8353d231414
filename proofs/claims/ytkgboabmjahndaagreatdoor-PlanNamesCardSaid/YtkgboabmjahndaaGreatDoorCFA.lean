/- A closed fact of the program: it bears the looks. -/
import Derived.Test.YtkgboabmjahndaaGreatDoorRows
import Derived.Test.YtkgboabmjahndaaGreatDoorChecked
import Derived.Test.YtkgboabmjahndaaGreatDoorCards
import Derived.SevenTiedAt
set_option maxRecDepth 100000
namespace Go.Proofs.YtkgboabmjahndaaGreatDoor
open Go
theorem seat_looks : Tryz.prog.looks [] = true := by kernel_rfl
end Go.Proofs.YtkgboabmjahndaaGreatDoor
