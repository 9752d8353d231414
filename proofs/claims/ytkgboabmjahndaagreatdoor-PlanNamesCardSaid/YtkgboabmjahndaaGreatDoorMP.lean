/- Proved: the tied card of terrazzolaw19.PlanNames: for every input the call returns true and its arguments read as before. Conditions: those of the row itself (the four listed tables lie as the text lays them). -/
import Derived.Test.YtkgboabmjahndaaGreatDoorMO
import Derived.Test.YtkgboabmjahndaaGreatDoorTie
import Derived.Test.YtkgboabmjahndaaGreatDoorCards
import Derived.SevenTiedAt
import Derived.Test.YtkgboabmjahndaaGreatDoorCFA
import Derived.Test.YtkgboabmjahndaaGreatDoorCFB
import Derived.Test.YtkgboabmjahndaaGreatDoorCFC
set_option linter.unusedVariables false
set_option maxRecDepth 100000
namespace Go.Proofs.YtkgboabmjahndaaGreatDoor
open Go Go.Fx
theorem planNames_card : Rows.PlanNamesCardSaid :=
  Claim7.holds_tied_plain_at .later [] [.data, .data, .data, .data] true (true, "2f29aa6f169e7a5c0faeb80b000d60bc5a0336933f5ff2fad29a6f4fe766f921") true
    planNames_said (fun _ h => by cases h) planNames_wf (fun _ h => by cases h) planNames_row_tie rfl ⟨rfl, rfl⟩ seat_main rfl
    (fun f fn hf hfn => by
      obtain rfl : f = 5 := Option.some.inj (planNames_named.symm.trans hf) |>.symm
      obtain rfl : fn = Tryz.f5 := (Option.some.inj (Tryz.func5.symm.trans hfn)).symm
      exact ⟨seat_looks.symm, fun j t ht => by
        rw [Tryz.params5] at ht
        rcases j with _ | _ | _ | j
        · obtain rfl : 3 = t := by simpa using ht
          exact seat_stand3
        · obtain rfl : 3 = t := by simpa using ht
          exact seat_stand3
        · obtain rfl : 41 = t := by simpa using ht
          exact seat_stand41
        · simp at ht⟩)
    planNames_goes.symm
#print axioms planNames_card
end Go.Proofs.YtkgboabmjahndaaGreatDoor
