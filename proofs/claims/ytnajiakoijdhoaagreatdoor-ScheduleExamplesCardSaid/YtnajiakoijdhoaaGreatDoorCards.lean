/-
  DERIVED. GIVEN WITH THE SEED: THE CARDS: each row of YtnajiakoijdhoaaGreatDoorRows.lean that lists a variable, with what it lists TIED to the program's text (the seventh form; the later family's looks); each row that meets fmt, with fmt's text TOLD by the authors' own Lean function (tested against real Go, not proved from fmt's source: count such statements apart). THE CARD IS WHAT COUNTS. Prove the row's statement (the work); the ties are given (YtnajiakoijdhoaaGreatDoorTie.lean); close each card by the builder's one call (the guide's Derived/Test/ToyasCard.lean, 'card_holds'). Laid BY PROGRAM, IN A SANDBOX (cutbox-door.mjs). By AI agents, Wed Nov 11 2026. No macro, syntax, notation, axiom, sorry.
-/
import Derived.Test.YtnajiakoijdhoaaGreatDoorRows
import GoSem.ClaimSeven
namespace Go.Proofs.YtnajiakoijdhoaaGreatDoor
namespace Rows

/-- THE TIED CARD OF 'fullinglaw37.ScheduleExamples'. -/
def scheduleExamplesCard : Claim7 := { stood := { row := scheduleExamplesRow, standIns := [], harness := (true, "d91548b26e963f05ac4e8b03022f8553fdc6ac22c040fc2e03e15ee8ff097c4b"), looks := false }, kinds := [], alts := [], laidByText := true, laidKinds := [.data, .data, .data], laidTests := true, laidLooks := .later }
def ScheduleExamplesCardSaid : Prop := Claim7.holds Tryz.pinned (.plain (OpenSpec.ofChange scheduleExamplesSpec)) scheduleExamplesCard

/-- THE TIED CARD OF 'fullinglaw38.ISelExamples'. -/
def iSelExamplesCard : Claim7 := { stood := { row := iSelExamplesRow, standIns := [], harness := (true, "d91548b26e963f05ac4e8b03022f8553fdc6ac22c040fc2e03e15ee8ff097c4b"), looks := false }, kinds := [], alts := [], laidByText := true, laidKinds := [.data, .data, .data], laidTests := true, laidLooks := .later }
def ISelExamplesCardSaid : Prop := Claim7.holds Tryz.pinned (.plain (OpenSpec.ofChange iSelExamplesSpec)) iSelExamplesCard

/-- THE SECOND FORM's CARD OF 'fullinglaw37.ScheduleExamples'. -/
def scheduleExamplesUptoCard : Claim7 := { stood := { row := scheduleExamplesUptoRow, standIns := [], harness := (true, "d91548b26e963f05ac4e8b03022f8553fdc6ac22c040fc2e03e15ee8ff097c4b"), looks := false }, kinds := [], alts := [], laidByText := true, laidKinds := [.data, .data, .data], laidTests := true, laidLooks := .later }
def ScheduleExamplesUptoCardSaid : Prop := Claim7.holds Tryz.pinned (.plain (OpenSpec.upto scheduleExamplesSpec)) scheduleExamplesUptoCard

/-- THE SECOND FORM's CARD OF 'fullinglaw38.ISelExamples'. -/
def iSelExamplesUptoCard : Claim7 := { stood := { row := iSelExamplesUptoRow, standIns := [], harness := (true, "d91548b26e963f05ac4e8b03022f8553fdc6ac22c040fc2e03e15ee8ff097c4b"), looks := false }, kinds := [], alts := [], laidByText := true, laidKinds := [.data, .data, .data], laidTests := true, laidLooks := .later }
def ISelExamplesUptoCardSaid : Prop := Claim7.holds Tryz.pinned (.plain (OpenSpec.upto iSelExamplesSpec)) iSelExamplesUptoCard
end Rows
end Go.Proofs.YtnajiakoijdhoaaGreatDoor
