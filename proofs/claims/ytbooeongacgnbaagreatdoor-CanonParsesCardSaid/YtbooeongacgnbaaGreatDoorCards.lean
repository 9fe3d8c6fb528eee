/-
  DERIVED. GIVEN WITH THE SEED: THE CARDS: each row of YtbooeongacgnbaaGreatDoorRows.lean that lists a variable, with what it lists TIED to the program's text (the seventh form; the later family's looks); each row that meets fmt, with fmt's text TOLD by the authors' own Lean function (tested against real Go, not proved from fmt's source: count such statements apart). THE CARD IS WHAT COUNTS. Prove the row's statement (the work); the ties are given (YtbooeongacgnbaaGreatDoorTie.lean); close each card by the builder's one call (the guide's Derived/Test/ToyasCard.lean, 'card_holds'). Laid BY PROGRAM, IN A SANDBOX (cutbox-door.mjs). By AI agents, Wed Nov 11 2026. No macro, syntax, notation, axiom, sorry.
-/
import Derived.Test.YtbooeongacgnbaaGreatDoorRows
import GoSem.ClaimSeven
namespace Go.Proofs.YtbooeongacgnbaaGreatDoor
namespace Rows

/-- THE TIED CARD OF 'heliastlaw03.CanonParses'. -/
def canonParsesCard : Claim7 := { stood := { row := canonParsesRow, standIns := [], harness := (true, "c7a3b08fc60ee0d5c632cdeb4d018da90be442eff2f05c901ee74b2b68093f43"), looks := true }, kinds := [], alts := [], laidByText := true, laidKinds := [.data, .data, .data, .data, .sentinel, .sentinel, .pinned, .pinned], laidTests := true, laidLooks := .later }
def CanonParsesCardSaid : Prop := Claim7.holds Tryz.pinned (.plain (OpenSpec.ofChange canonParsesSpec)) canonParsesCard

/-- THE TIED CARD OF 'heliastlaw03.CanonBack'. -/
def canonBackCard : Claim7 := { stood := { row := canonBackRow, standIns := [], harness := (true, "c7a3b08fc60ee0d5c632cdeb4d018da90be442eff2f05c901ee74b2b68093f43"), looks := true }, kinds := [], alts := [], laidByText := true, laidKinds := [.data, .data, .data, .data, .sentinel, .sentinel, .pinned, .pinned], laidTests := true, laidLooks := .later }
def CanonBackCardSaid : Prop := Claim7.holds Tryz.pinned (.plain (OpenSpec.ofChange canonBackSpec)) canonBackCard

/-- THE TIED CARD OF 'heliastlaw03.CanonOne'. -/
def canonOneCard : Claim7 := { stood := { row := canonOneRow, standIns := [], harness := (true, "c7a3b08fc60ee0d5c632cdeb4d018da90be442eff2f05c901ee74b2b68093f43"), looks := true }, kinds := [], alts := [], laidByText := true, laidKinds := [.data, .data, .data, .data, .sentinel, .sentinel, .pinned, .pinned], laidTests := true, laidLooks := .later }
def CanonOneCardSaid : Prop := Claim7.holds Tryz.pinned (.plain (OpenSpec.ofChange canonOneSpec)) canonOneCard

/-- THE TIED CARD OF 'heliastlaw03.CanonDeep'. -/
def canonDeepCard : Claim7 := { stood := { row := canonDeepRow, standIns := [], harness := (true, "c7a3b08fc60ee0d5c632cdeb4d018da90be442eff2f05c901ee74b2b68093f43"), looks := true }, kinds := [], alts := [], laidByText := true, laidKinds := [.data, .data, .data, .data, .sentinel, .sentinel, .pinned, .pinned], laidTests := true, laidLooks := .later }
def CanonDeepCardSaid : Prop := Claim7.holds Tryz.pinned (.plain (OpenSpec.ofChange canonDeepSpec)) canonDeepCard

/-- THE TIED CARD OF 'heliastlaw03.CanonWhole'. -/
def canonWholeCard : Claim7 := { stood := { row := canonWholeRow, standIns := [], harness := (true, "c7a3b08fc60ee0d5c632cdeb4d018da90be442eff2f05c901ee74b2b68093f43"), looks := true }, kinds := [], alts := [], laidByText := true, laidKinds := [.data, .data, .data, .data, .sentinel, .sentinel, .pinned, .pinned], laidTests := true, laidLooks := .later }
def CanonWholeCardSaid : Prop := Claim7.holds Tryz.pinned (.plain (OpenSpec.ofChange canonWholeSpec)) canonWholeCard

/-- THE TIED CARD OF 'heliastlaw03.CanonCut'. -/
def canonCutCard : Claim7 := { stood := { row := canonCutRow, standIns := [], harness := (true, "c7a3b08fc60ee0d5c632cdeb4d018da90be442eff2f05c901ee74b2b68093f43"), looks := true }, kinds := [], alts := [], laidByText := true, laidKinds := [.data, .data, .data, .data, .sentinel, .sentinel, .pinned, .pinned], laidTests := true, laidLooks := .later }
def CanonCutCardSaid : Prop := Claim7.holds Tryz.pinned (.plain (OpenSpec.ofChange canonCutSpec)) canonCutCard

/-- THE TIED CARD OF 'heliastlaw03.CanonKeys'. -/
def canonKeysCard : Claim7 := { stood := { row := canonKeysRow, standIns := [], harness := (true, "c7a3b08fc60ee0d5c632cdeb4d018da90be442eff2f05c901ee74b2b68093f43"), looks := true }, kinds := [], alts := [], laidByText := true, laidKinds := [.data, .data, .data, .data, .sentinel, .sentinel, .pinned, .pinned], laidTests := true, laidLooks := .later }
def CanonKeysCardSaid : Prop := Claim7.holds Tryz.pinned (.plain (OpenSpec.ofChange canonKeysSpec)) canonKeysCard

/-- THE TIED CARD OF 'heliastlaw03.CanonEnd'. -/
def canonEndCard : Claim7 := { stood := { row := canonEndRow, standIns := [], harness := (true, "c7a3b08fc60ee0d5c632cdeb4d018da90be442eff2f05c901ee74b2b68093f43"), looks := true }, kinds := [], alts := [], laidByText := true, laidKinds := [.data, .data, .data, .data, .sentinel, .sentinel, .pinned, .pinned], laidTests := true, laidLooks := .later }
def CanonEndCardSaid : Prop := Claim7.holds Tryz.pinned (.plain (OpenSpec.ofChange canonEndSpec)) canonEndCard

/-- THE SECOND FORM's CARD OF 'heliastlaw03.CanonParses'. -/
def canonParsesUptoCard : Claim7 := { stood := { row := canonParsesUptoRow, standIns := [], harness := (true, "c7a3b08fc60ee0d5c632cdeb4d018da90be442eff2f05c901ee74b2b68093f43"), looks := true }, kinds := [], alts := [], laidByText := true, laidKinds := [.data, .data, .data, .data, .sentinel, .sentinel, .pinned, .pinned], laidTests := true, laidLooks := .later }
def CanonParsesUptoCardSaid : Prop := Claim7.holds Tryz.pinned (.plain (OpenSpec.upto canonParsesSpec)) canonParsesUptoCard

/-- THE SECOND FORM's CARD OF 'heliastlaw03.CanonBack'. -/
def canonBackUptoCard : Claim7 := { stood := { row := canonBackUptoRow, standIns := [], harness := (true, "c7a3b08fc60ee0d5c632cdeb4d018da90be442eff2f05c901ee74b2b68093f43"), looks := true }, kinds := [], alts := [], laidByText := true, laidKinds := [.data, .data, .data, .data, .sentinel, .sentinel, .pinned, .pinned], laidTests := true, laidLooks := .later }
def CanonBackUptoCardSaid : Prop := Claim7.holds Tryz.pinned (.plain (OpenSpec.upto canonBackSpec)) canonBackUptoCard

/-- THE SECOND FORM's CARD OF 'heliastlaw03.CanonOne'. -/
def canonOneUptoCard : Claim7 := { stood := { row := canonOneUptoRow, standIns := [], harness := (true, "c7a3b08fc60ee0d5c632cdeb4d018da90be442eff2f05c901ee74b2b68093f43"), looks := true }, kinds := [], alts := [], laidByText := true, laidKinds := [.data, .data, .data, .data, .sentinel, .sentinel, .pinned, .pinned], laidTests := true, laidLooks := .later }
def CanonOneUptoCardSaid : Prop := Claim7.holds Tryz.pinned (.plain (OpenSpec.upto canonOneSpec)) canonOneUptoCard

/-- THE SECOND FORM's CARD OF 'heliastlaw03.CanonDeep'. -/
def canonDeepUptoCard : Claim7 := { stood := { row := canonDeepUptoRow, standIns := [], harness := (true, "c7a3b08fc60ee0d5c632cdeb4d018da90be442eff2f05c901ee74b2b68093f43"), looks := true }, kinds := [], alts := [], laidByText := true, laidKinds := [.data, .data, .data, .data, .sentinel, .sentinel, .pinned, .pinned], laidTests := true, laidLooks := .later }
def CanonDeepUptoCardSaid : Prop := Claim7.holds Tryz.pinned (.plain (OpenSpec.upto canonDeepSpec)) canonDeepUptoCard

/-- THE SECOND FORM's CARD OF 'heliastlaw03.CanonWhole'. -/
def canonWholeUptoCard : Claim7 := { stood := { row := canonWholeUptoRow, standIns := [], harness := (true, "c7a3b08fc60ee0d5c632cdeb4d018da90be442eff2f05c901ee74b2b68093f43"), looks := true }, kinds := [], alts := [], laidByText := true, laidKinds := [.data, .data, .data, .data, .sentinel, .sentinel, .pinned, .pinned], laidTests := true, laidLooks := .later }
def CanonWholeUptoCardSaid : Prop := Claim7.holds Tryz.pinned (.plain (OpenSpec.upto canonWholeSpec)) canonWholeUptoCard

/-- THE SECOND FORM's CARD OF 'heliastlaw03.CanonCut'. -/
def canonCutUptoCard : Claim7 := { stood := { row := canonCutUptoRow, standIns := [], harness := (true, "c7a3b08fc60ee0d5c632cdeb4d018da90be442eff2f05c901ee74b2b68093f43"), looks := true }, kinds := [], alts := [], laidByText := true, laidKinds := [.data, .data, .data, .data, .sentinel, .sentinel, .pinned, .pinned], laidTests := true, laidLooks := .later }
def CanonCutUptoCardSaid : Prop := Claim7.holds Tryz.pinned (.plain (OpenSpec.upto canonCutSpec)) canonCutUptoCard

/-- THE SECOND FORM's CARD OF 'heliastlaw03.CanonKeys'. -/
def canonKeysUptoCard : Claim7 := { stood := { row := canonKeysUptoRow, standIns := [], harness := (true, "c7a3b08fc60ee0d5c632cdeb4d018da90be442eff2f05c901ee74b2b68093f43"), looks := true }, kinds := [], alts := [], laidByText := true, laidKinds := [.data, .data, .data, .data, .sentinel, .sentinel, .pinned, .pinned], laidTests := true, laidLooks := .later }
def CanonKeysUptoCardSaid : Prop := Claim7.holds Tryz.pinned (.plain (OpenSpec.upto canonKeysSpec)) canonKeysUptoCard

/-- THE SECOND FORM's CARD OF 'heliastlaw03.CanonEnd'. -/
def canonEndUptoCard : Claim7 := { stood := { row := canonEndUptoRow, standIns := [], harness := (true, "c7a3b08fc60ee0d5c632cdeb4d018da90be442eff2f05c901ee74b2b68093f43"), looks := true }, kinds := [], alts := [], laidByText := true, laidKinds := [.data, .data, .data, .data, .sentinel, .sentinel, .pinned, .pinned], laidTests := true, laidLooks := .later }
def CanonEndUptoCardSaid : Prop := Claim7.holds Tryz.pinned (.plain (OpenSpec.upto canonEndSpec)) canonEndUptoCard
end Rows
end Go.Proofs.YtbooeongacgnbaaGreatDoor
