/-
  DERIVED. GIVEN WITH THE SEED: THE CARDS: each row of YtkgboabmjahndaaGreatDoorRows.lean that lists a variable, with what it lists TIED to the program's text (the seventh form; the later family's looks); each row that meets fmt, with fmt's text TOLD by the authors' own Lean function (tested against real Go, not proved from fmt's source: count such statements apart). THE CARD IS WHAT COUNTS. Prove the row's statement (the work); the ties are given (YtkgboabmjahndaaGreatDoorTie.lean); close each card by the builder's one call (the guide's Derived/Test/ToyasCard.lean, 'card_holds'). Laid BY PROGRAM, IN A SANDBOX (cutbox-door.mjs). By AI agents, Wed Nov 11 2026. No macro, syntax, notation, axiom, sorry.
-/
import Derived.Test.YtkgboabmjahndaaGreatDoorRows
import GoSem.ClaimSeven
namespace Go.Proofs.YtkgboabmjahndaaGreatDoor
namespace Rows

/-- THE TIED CARD OF 'terrazzolaw11.StoreNames'. -/
def storeNamesCard : Claim7 := { stood := { row := storeNamesRow, standIns := [], harness := (true, "2f29aa6f169e7a5c0faeb80b000d60bc5a0336933f5ff2fad29a6f4fe766f921"), looks := true }, kinds := [], alts := [], laidByText := true, laidKinds := [.data, .handle, .pinned], laidTests := true, laidLooks := .later }
def StoreNamesCardSaid : Prop := Claim7.holds Tryz.pinned (.plain (OpenSpec.ofChange storeNamesSpec)) storeNamesCard

/-- THE TIED CARD OF 'terrazzolaw19.PlanDoes'. -/
def planDoesCard : Claim7 := { stood := { row := planDoesRow, standIns := [], harness := (true, "2f29aa6f169e7a5c0faeb80b000d60bc5a0336933f5ff2fad29a6f4fe766f921"), looks := true }, kinds := [], alts := [], laidByText := true, laidKinds := [.data, .data, .data, .data], laidTests := true, laidLooks := .later }
def PlanDoesCardSaid : Prop := Claim7.holds Tryz.pinned (.plain (OpenSpec.ofChange planDoesSpec)) planDoesCard

/-- THE TIED CARD OF 'terrazzolaw19.PlanNames'. -/
def planNamesCard : Claim7 := { stood := { row := planNamesRow, standIns := [], harness := (true, "2f29aa6f169e7a5c0faeb80b000d60bc5a0336933f5ff2fad29a6f4fe766f921"), looks := true }, kinds := [], alts := [], laidByText := true, laidKinds := [.data, .data, .data, .data], laidTests := true, laidLooks := .later }
def PlanNamesCardSaid : Prop := Claim7.holds Tryz.pinned (.plain (OpenSpec.ofChange planNamesSpec)) planNamesCard

/-- THE TIED CARD OF 'terrazzolaw19.PlanAgain'. -/
def planAgainCard : Claim7 := { stood := { row := planAgainRow, standIns := [], harness := (true, "2f29aa6f169e7a5c0faeb80b000d60bc5a0336933f5ff2fad29a6f4fe766f921"), looks := true }, kinds := [], alts := [], laidByText := true, laidKinds := [.data, .data, .data, .data], laidTests := true, laidLooks := .later }
def PlanAgainCardSaid : Prop := Claim7.holds Tryz.pinned (.plain (OpenSpec.ofChange planAgainSpec)) planAgainCard

/-- THE TIED CARD OF 'terrazzolaw19.PlanDiffers'. -/
def planDiffersCard : Claim7 := { stood := { row := planDiffersRow, standIns := [], harness := (true, "2f29aa6f169e7a5c0faeb80b000d60bc5a0336933f5ff2fad29a6f4fe766f921"), looks := true }, kinds := [], alts := [], laidByText := true, laidKinds := [.data, .data, .data, .data], laidTests := true, laidLooks := .later }
def PlanDiffersCardSaid : Prop := Claim7.holds Tryz.pinned (.plain (OpenSpec.ofChange planDiffersSpec)) planDiffersCard

/-- THE TIED CARD OF 'terrazzolaw19.PlanOpens'. -/
def planOpensCard : Claim7 := { stood := { row := planOpensRow, standIns := [], harness := (true, "2f29aa6f169e7a5c0faeb80b000d60bc5a0336933f5ff2fad29a6f4fe766f921"), looks := true }, kinds := [], alts := [], laidByText := true, laidKinds := [.data, .data, .data, .data], laidTests := true, laidLooks := .later }
def PlanOpensCardSaid : Prop := Claim7.holds Tryz.pinned (.plain (OpenSpec.ofChange planOpensSpec)) planOpensCard

/-- THE TIED CARD OF 'terrazzolaw19.PlanReads'. -/
def planReadsCard : Claim7 := { stood := { row := planReadsRow, standIns := [], harness := (true, "2f29aa6f169e7a5c0faeb80b000d60bc5a0336933f5ff2fad29a6f4fe766f921"), looks := true }, kinds := [], alts := [], laidByText := true, laidKinds := [.data, .data, .data, .data], laidTests := true, laidLooks := .later }
def PlanReadsCardSaid : Prop := Claim7.holds Tryz.pinned (.plain (OpenSpec.ofChange planReadsSpec)) planReadsCard

/-- THE TIED CARD OF 'terrazzolaw20.JournalReplays'. -/
def journalReplaysCard : Claim7 := { stood := { row := journalReplaysRow, standIns := [], harness := (true, "2f29aa6f169e7a5c0faeb80b000d60bc5a0336933f5ff2fad29a6f4fe766f921"), looks := true }, kinds := [], alts := [], laidByText := true, laidKinds := [.data, .data, .data, .data, .data], laidTests := true, laidLooks := .later }
def JournalReplaysCardSaid : Prop := Claim7.holds Tryz.pinned (.plain (OpenSpec.ofChange journalReplaysSpec)) journalReplaysCard

/-- THE SECOND FORM's CARD OF 'terrazzolaw11.StoreNames'. -/
def storeNamesUptoCard : Claim7 := { stood := { row := storeNamesUptoRow, standIns := [], harness := (true, "2f29aa6f169e7a5c0faeb80b000d60bc5a0336933f5ff2fad29a6f4fe766f921"), looks := true }, kinds := [], alts := [], laidByText := true, laidKinds := [.data, .handle, .pinned], laidTests := true, laidLooks := .later }
def StoreNamesUptoCardSaid : Prop := Claim7.holds Tryz.pinned (.plain (OpenSpec.upto storeNamesSpec)) storeNamesUptoCard

/-- THE SECOND FORM's CARD OF 'terrazzolaw19.PlanDoes'. -/
def planDoesUptoCard : Claim7 := { stood := { row := planDoesUptoRow, standIns := [], harness := (true, "2f29aa6f169e7a5c0faeb80b000d60bc5a0336933f5ff2fad29a6f4fe766f921"), looks := true }, kinds := [], alts := [], laidByText := true, laidKinds := [.data, .data, .data, .data], laidTests := true, laidLooks := .later }
def PlanDoesUptoCardSaid : Prop := Claim7.holds Tryz.pinned (.plain (OpenSpec.upto planDoesSpec)) planDoesUptoCard

/-- THE SECOND FORM's CARD OF 'terrazzolaw19.PlanNames'. -/
def planNamesUptoCard : Claim7 := { stood := { row := planNamesUptoRow, standIns := [], harness := (true, "2f29aa6f169e7a5c0faeb80b000d60bc5a0336933f5ff2fad29a6f4fe766f921"), looks := true }, kinds := [], alts := [], laidByText := true, laidKinds := [.data, .data, .data, .data], laidTests := true, laidLooks := .later }
def PlanNamesUptoCardSaid : Prop := Claim7.holds Tryz.pinned (.plain (OpenSpec.upto planNamesSpec)) planNamesUptoCard

/-- THE SECOND FORM's CARD OF 'terrazzolaw19.PlanAgain'. -/
def planAgainUptoCard : Claim7 := { stood := { row := planAgainUptoRow, standIns := [], harness := (true, "2f29aa6f169e7a5c0faeb80b000d60bc5a0336933f5ff2fad29a6f4fe766f921"), looks := true }, kinds := [], alts := [], laidByText := true, laidKinds := [.data, .data, .data, .data], laidTests := true, laidLooks := .later }
def PlanAgainUptoCardSaid : Prop := Claim7.holds Tryz.pinned (.plain (OpenSpec.upto planAgainSpec)) planAgainUptoCard

/-- THE SECOND FORM's CARD OF 'terrazzolaw19.PlanDiffers'. -/
def planDiffersUptoCard : Claim7 := { stood := { row := planDiffersUptoRow, standIns := [], harness := (true, "2f29aa6f169e7a5c0faeb80b000d60bc5a0336933f5ff2fad29a6f4fe766f921"), looks := true }, kinds := [], alts := [], laidByText := true, laidKinds := [.data, .data, .data, .data], laidTests := true, laidLooks := .later }
def PlanDiffersUptoCardSaid : Prop := Claim7.holds Tryz.pinned (.plain (OpenSpec.upto planDiffersSpec)) planDiffersUptoCard

/-- THE SECOND FORM's CARD OF 'terrazzolaw19.PlanOpens'. -/
def planOpensUptoCard : Claim7 := { stood := { row := planOpensUptoRow, standIns := [], harness := (true, "2f29aa6f169e7a5c0faeb80b000d60bc5a0336933f5ff2fad29a6f4fe766f921"), looks := true }, kinds := [], alts := [], laidByText := true, laidKinds := [.data, .data, .data, .data], laidTests := true, laidLooks := .later }
def PlanOpensUptoCardSaid : Prop := Claim7.holds Tryz.pinned (.plain (OpenSpec.upto planOpensSpec)) planOpensUptoCard

/-- THE SECOND FORM's CARD OF 'terrazzolaw19.PlanReads'. -/
def planReadsUptoCard : Claim7 := { stood := { row := planReadsUptoRow, standIns := [], harness := (true, "2f29aa6f169e7a5c0faeb80b000d60bc5a0336933f5ff2fad29a6f4fe766f921"), looks := true }, kinds := [], alts := [], laidByText := true, laidKinds := [.data, .data, .data, .data], laidTests := true, laidLooks := .later }
def PlanReadsUptoCardSaid : Prop := Claim7.holds Tryz.pinned (.plain (OpenSpec.upto planReadsSpec)) planReadsUptoCard

/-- THE SECOND FORM's CARD OF 'terrazzolaw20.JournalReplays'. -/
def journalReplaysUptoCard : Claim7 := { stood := { row := journalReplaysUptoRow, standIns := [], harness := (true, "2f29aa6f169e7a5c0faeb80b000d60bc5a0336933f5ff2fad29a6f4fe766f921"), looks := true }, kinds := [], alts := [], laidByText := true, laidKinds := [.data, .data, .data, .data, .data], laidTests := true, laidLooks := .later }
def JournalReplaysUptoCardSaid : Prop := Claim7.holds Tryz.pinned (.plain (OpenSpec.upto journalReplaysSpec)) journalReplaysUptoCard
end Rows
end Go.Proofs.YtkgboabmjahndaaGreatDoor
