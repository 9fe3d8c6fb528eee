/-
  DERIVED. GIVEN WITH THE SEED: THE CARDS: each row of YtonpfomjoiaacaaGreatDoorRows.lean that lists a variable, with what it lists TIED to the program's text (the seventh form; the later family's looks); each row that meets fmt, with fmt's text TOLD by the authors' own Lean function (tested against real Go, not proved from fmt's source: count such statements apart). THE CARD IS WHAT COUNTS. Prove the row's statement (the work); the ties are given (YtonpfomjoiaacaaGreatDoorTie.lean); close each card by the builder's one call (the guide's Derived/Test/ToyasCard.lean, 'card_holds'). Laid BY PROGRAM, IN A SANDBOX (cutbox-door.mjs). By AI agents, Wed Nov 11 2026. No macro, syntax, notation, axiom, sorry.
-/
import Derived.Test.YtonpfomjoiaacaaGreatDoorRows
import GoSem.ClaimSeven
namespace Go.Proofs.YtonpfomjoiaacaaGreatDoor
namespace Rows

/-- THE TIED CARD OF 'heliastlaw08.EventShape'. -/
def eventShapeCard : Claim7 := { stood := { row := eventShapeRow, standIns := [], harness := (true, "75079ff05d6b0a2dc1c6b786e9a4f32c3aad079791fb4f59bb72965eb17389d3"), looks := true }, kinds := [], alts := [], laidByText := true, laidKinds := [.data, .data, .data, .listed, .data], laidTests := true, laidLooks := .later }
def EventShapeCardSaid : Prop := Claim7.holds Tryz.pinned (.plain (OpenSpec.ofChange eventShapeSpec)) eventShapeCard

/-- THE TIED CARD OF 'heliastlaw08.EventEdges'. -/
def eventEdgesCard : Claim7 := { stood := { row := eventEdgesRow, standIns := [], harness := (true, "75079ff05d6b0a2dc1c6b786e9a4f32c3aad079791fb4f59bb72965eb17389d3"), looks := true }, kinds := [], alts := [], laidByText := true, laidKinds := [.data, .data, .data, .listed, .data], laidTests := true, laidLooks := .later }
def EventEdgesCardSaid : Prop := Claim7.holds Tryz.pinned (.plain (OpenSpec.ofChange eventEdgesSpec)) eventEdgesCard

/-- THE TIED CARD OF 'heliastlaw08.EventNumbers'. -/
def eventNumbersCard : Claim7 := { stood := { row := eventNumbersRow, standIns := [], harness := (true, "75079ff05d6b0a2dc1c6b786e9a4f32c3aad079791fb4f59bb72965eb17389d3"), looks := true }, kinds := [], alts := [], laidByText := true, laidKinds := [.data, .data, .data, .listed, .data], laidTests := true, laidLooks := .later }
def EventNumbersCardSaid : Prop := Claim7.holds Tryz.pinned (.plain (OpenSpec.ofChange eventNumbersSpec)) eventNumbersCard

/-- THE TIED CARD OF 'heliastlaw08.EventKinds'. -/
def eventKindsCard : Claim7 := { stood := { row := eventKindsRow, standIns := [], harness := (true, "75079ff05d6b0a2dc1c6b786e9a4f32c3aad079791fb4f59bb72965eb17389d3"), looks := true }, kinds := [], alts := [], laidByText := true, laidKinds := [.data, .data, .data, .listed, .data], laidTests := true, laidLooks := .later }
def EventKindsCardSaid : Prop := Claim7.holds Tryz.pinned (.plain (OpenSpec.ofChange eventKindsSpec)) eventKindsCard

/-- THE TIED CARD OF 'heliastlaw08.EventNames'. -/
def eventNamesCard : Claim7 := { stood := { row := eventNamesRow, standIns := [], harness := (true, "75079ff05d6b0a2dc1c6b786e9a4f32c3aad079791fb4f59bb72965eb17389d3"), looks := true }, kinds := [], alts := [], laidByText := true, laidKinds := [.data, .data, .data, .listed, .data], laidTests := true, laidLooks := .later }
def EventNamesCardSaid : Prop := Claim7.holds Tryz.pinned (.plain (OpenSpec.ofChange eventNamesSpec)) eventNamesCard

/-- THE TIED CARD OF 'heliastlaw08.EventMakes'. -/
def eventMakesCard : Claim7 := { stood := { row := eventMakesRow, standIns := [], harness := (true, "75079ff05d6b0a2dc1c6b786e9a4f32c3aad079791fb4f59bb72965eb17389d3"), looks := true }, kinds := [], alts := [], laidByText := true, laidKinds := [.data, .data, .data, .listed, .data], laidTests := true, laidLooks := .later }
def EventMakesCardSaid : Prop := Claim7.holds Tryz.pinned (.plain (OpenSpec.ofChange eventMakesSpec)) eventMakesCard

/-- THE TIED CARD OF 'heliastlaw08.EventReads'. -/
def eventReadsCard : Claim7 := { stood := { row := eventReadsRow, standIns := [], harness := (true, "75079ff05d6b0a2dc1c6b786e9a4f32c3aad079791fb4f59bb72965eb17389d3"), looks := true }, kinds := [], alts := [], laidByText := true, laidKinds := [.data, .data, .data, .data, .sentinel, .sentinel, .listed, .data, .pinned, .pinned], laidTests := true, laidLooks := .later }
def EventReadsCardSaid : Prop := Claim7.holds Tryz.pinned (.plain (OpenSpec.ofChange eventReadsSpec)) eventReadsCard

/-- THE TIED CARD OF 'heliastlaw08.EventBack'. -/
def eventBackCard : Claim7 := { stood := { row := eventBackRow, standIns := [], harness := (true, "75079ff05d6b0a2dc1c6b786e9a4f32c3aad079791fb4f59bb72965eb17389d3"), looks := true }, kinds := [], alts := [], laidByText := true, laidKinds := [.data, .data, .data, .data, .sentinel, .sentinel, .listed, .data, .pinned, .pinned], laidTests := true, laidLooks := .later }
def EventBackCardSaid : Prop := Claim7.holds Tryz.pinned (.plain (OpenSpec.ofChange eventBackSpec)) eventBackCard

/-- THE TIED CARD OF 'heliastlaw08.EventDeep'. -/
def eventDeepCard : Claim7 := { stood := { row := eventDeepRow, standIns := [], harness := (true, "75079ff05d6b0a2dc1c6b786e9a4f32c3aad079791fb4f59bb72965eb17389d3"), looks := true }, kinds := [], alts := [], laidByText := true, laidKinds := [.data, .data, .data, .data, .sentinel, .sentinel, .listed, .data, .pinned, .pinned], laidTests := true, laidLooks := .later }
def EventDeepCardSaid : Prop := Claim7.holds Tryz.pinned (.plain (OpenSpec.ofChange eventDeepSpec)) eventDeepCard

/-- THE SECOND FORM's CARD OF 'heliastlaw08.EventShape'. -/
def eventShapeUptoCard : Claim7 := { stood := { row := eventShapeUptoRow, standIns := [], harness := (true, "75079ff05d6b0a2dc1c6b786e9a4f32c3aad079791fb4f59bb72965eb17389d3"), looks := true }, kinds := [], alts := [], laidByText := true, laidKinds := [.data, .data, .data, .listed, .data], laidTests := true, laidLooks := .later }
def EventShapeUptoCardSaid : Prop := Claim7.holds Tryz.pinned (.plain (OpenSpec.upto eventShapeSpec)) eventShapeUptoCard

/-- THE SECOND FORM's CARD OF 'heliastlaw08.EventEdges'. -/
def eventEdgesUptoCard : Claim7 := { stood := { row := eventEdgesUptoRow, standIns := [], harness := (true, "75079ff05d6b0a2dc1c6b786e9a4f32c3aad079791fb4f59bb72965eb17389d3"), looks := true }, kinds := [], alts := [], laidByText := true, laidKinds := [.data, .data, .data, .listed, .data], laidTests := true, laidLooks := .later }
def EventEdgesUptoCardSaid : Prop := Claim7.holds Tryz.pinned (.plain (OpenSpec.upto eventEdgesSpec)) eventEdgesUptoCard

/-- THE SECOND FORM's CARD OF 'heliastlaw08.EventNumbers'. -/
def eventNumbersUptoCard : Claim7 := { stood := { row := eventNumbersUptoRow, standIns := [], harness := (true, "75079ff05d6b0a2dc1c6b786e9a4f32c3aad079791fb4f59bb72965eb17389d3"), looks := true }, kinds := [], alts := [], laidByText := true, laidKinds := [.data, .data, .data, .listed, .data], laidTests := true, laidLooks := .later }
def EventNumbersUptoCardSaid : Prop := Claim7.holds Tryz.pinned (.plain (OpenSpec.upto eventNumbersSpec)) eventNumbersUptoCard

/-- THE SECOND FORM's CARD OF 'heliastlaw08.EventKinds'. -/
def eventKindsUptoCard : Claim7 := { stood := { row := eventKindsUptoRow, standIns := [], harness := (true, "75079ff05d6b0a2dc1c6b786e9a4f32c3aad079791fb4f59bb72965eb17389d3"), looks := true }, kinds := [], alts := [], laidByText := true, laidKinds := [.data, .data, .data, .listed, .data], laidTests := true, laidLooks := .later }
def EventKindsUptoCardSaid : Prop := Claim7.holds Tryz.pinned (.plain (OpenSpec.upto eventKindsSpec)) eventKindsUptoCard

/-- THE SECOND FORM's CARD OF 'heliastlaw08.EventNames'. -/
def eventNamesUptoCard : Claim7 := { stood := { row := eventNamesUptoRow, standIns := [], harness := (true, "75079ff05d6b0a2dc1c6b786e9a4f32c3aad079791fb4f59bb72965eb17389d3"), looks := true }, kinds := [], alts := [], laidByText := true, laidKinds := [.data, .data, .data, .listed, .data], laidTests := true, laidLooks := .later }
def EventNamesUptoCardSaid : Prop := Claim7.holds Tryz.pinned (.plain (OpenSpec.upto eventNamesSpec)) eventNamesUptoCard

/-- THE SECOND FORM's CARD OF 'heliastlaw08.EventMakes'. -/
def eventMakesUptoCard : Claim7 := { stood := { row := eventMakesUptoRow, standIns := [], harness := (true, "75079ff05d6b0a2dc1c6b786e9a4f32c3aad079791fb4f59bb72965eb17389d3"), looks := true }, kinds := [], alts := [], laidByText := true, laidKinds := [.data, .data, .data, .listed, .data], laidTests := true, laidLooks := .later }
def EventMakesUptoCardSaid : Prop := Claim7.holds Tryz.pinned (.plain (OpenSpec.upto eventMakesSpec)) eventMakesUptoCard

/-- THE SECOND FORM's CARD OF 'heliastlaw08.EventReads'. -/
def eventReadsUptoCard : Claim7 := { stood := { row := eventReadsUptoRow, standIns := [], harness := (true, "75079ff05d6b0a2dc1c6b786e9a4f32c3aad079791fb4f59bb72965eb17389d3"), looks := true }, kinds := [], alts := [], laidByText := true, laidKinds := [.data, .data, .data, .data, .sentinel, .sentinel, .listed, .data, .pinned, .pinned], laidTests := true, laidLooks := .later }
def EventReadsUptoCardSaid : Prop := Claim7.holds Tryz.pinned (.plain (OpenSpec.upto eventReadsSpec)) eventReadsUptoCard

/-- THE SECOND FORM's CARD OF 'heliastlaw08.EventBack'. -/
def eventBackUptoCard : Claim7 := { stood := { row := eventBackUptoRow, standIns := [], harness := (true, "75079ff05d6b0a2dc1c6b786e9a4f32c3aad079791fb4f59bb72965eb17389d3"), looks := true }, kinds := [], alts := [], laidByText := true, laidKinds := [.data, .data, .data, .data, .sentinel, .sentinel, .listed, .data, .pinned, .pinned], laidTests := true, laidLooks := .later }
def EventBackUptoCardSaid : Prop := Claim7.holds Tryz.pinned (.plain (OpenSpec.upto eventBackSpec)) eventBackUptoCard

/-- THE SECOND FORM's CARD OF 'heliastlaw08.EventDeep'. -/
def eventDeepUptoCard : Claim7 := { stood := { row := eventDeepUptoRow, standIns := [], harness := (true, "75079ff05d6b0a2dc1c6b786e9a4f32c3aad079791fb4f59bb72965eb17389d3"), looks := true }, kinds := [], alts := [], laidByText := true, laidKinds := [.data, .data, .data, .data, .sentinel, .sentinel, .listed, .data, .pinned, .pinned], laidTests := true, laidLooks := .later }
def EventDeepUptoCardSaid : Prop := Claim7.holds Tryz.pinned (.plain (OpenSpec.upto eventDeepSpec)) eventDeepUptoCard
end Rows
end Go.Proofs.YtonpfomjoiaacaaGreatDoor
