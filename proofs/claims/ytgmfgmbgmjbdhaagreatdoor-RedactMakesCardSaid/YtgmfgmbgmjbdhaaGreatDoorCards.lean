/-
  DERIVED. GIVEN WITH THE SEED: THE CARDS: each row of YtgmfgmbgmjbdhaaGreatDoorRows.lean that lists a variable, with what it lists TIED to the program's text (the seventh form; the later family's looks); each row that meets fmt, with fmt's text TOLD by the authors' own Lean function (tested against real Go, not proved from fmt's source: count such statements apart). THE CARD IS WHAT COUNTS. Prove the row's statement (the work); the ties are given (YtgmfgmbgmjbdhaaGreatDoorTie.lean); close each card by the builder's one call (the guide's Derived/Test/ToyasCard.lean, 'card_holds'). Laid BY PROGRAM, IN A SANDBOX (cutbox-door.mjs). By AI agents, Wed Nov 11 2026. No macro, syntax, notation, axiom, sorry.
-/
import Derived.Test.YtgmfgmbgmjbdhaaGreatDoorRows
import GoSem.ClaimSeven
namespace Go.Proofs.YtgmfgmbgmjbdhaaGreatDoor
namespace Rows

/-- THE TIED CARD OF 'heliastlaw07.RedactSeal'. -/
def redactSealCard : Claim7 := { stood := { row := redactSealRow, standIns := [], harness := (true, "628260f38e2c30fd2f1b1d54a6dc8acd9ab38c930c08ff9f199f6d247eb0f735"), looks := false }, kinds := [], alts := [], laidByText := true, laidKinds := [.data, .data, .data, .listed, .data], laidTests := true, laidLooks := .later }
def RedactSealCardSaid : Prop := Claim7.holds Tryz.pinned (.plain (OpenSpec.ofChange redactSealSpec)) redactSealCard

/-- THE TIED CARD OF 'heliastlaw07.RedactKeeps'. -/
def redactKeepsCard : Claim7 := { stood := { row := redactKeepsRow, standIns := [], harness := (true, "628260f38e2c30fd2f1b1d54a6dc8acd9ab38c930c08ff9f199f6d247eb0f735"), looks := false }, kinds := [], alts := [], laidByText := true, laidKinds := [.data, .data, .data, .listed, .data], laidTests := true, laidLooks := .later }
def RedactKeepsCardSaid : Prop := Claim7.holds Tryz.pinned (.plain (OpenSpec.ofChange redactKeepsSpec)) redactKeepsCard

/-- THE TIED CARD OF 'heliastlaw07.RedactNone'. -/
def redactNoneCard : Claim7 := { stood := { row := redactNoneRow, standIns := [], harness := (true, "628260f38e2c30fd2f1b1d54a6dc8acd9ab38c930c08ff9f199f6d247eb0f735"), looks := false }, kinds := [], alts := [], laidByText := true, laidKinds := [.data, .data, .data, .listed, .data], laidTests := true, laidLooks := .later }
def RedactNoneCardSaid : Prop := Claim7.holds Tryz.pinned (.plain (OpenSpec.ofChange redactNoneSpec)) redactNoneCard

/-- THE TIED CARD OF 'heliastlaw07.RedactMakes'. -/
def redactMakesCard : Claim7 := { stood := { row := redactMakesRow, standIns := [], harness := (true, "628260f38e2c30fd2f1b1d54a6dc8acd9ab38c930c08ff9f199f6d247eb0f735"), looks := false }, kinds := [], alts := [], laidByText := true, laidKinds := [.data, .data, .data, .listed, .data], laidTests := true, laidLooks := .later }
def RedactMakesCardSaid : Prop := Claim7.holds Tryz.pinned (.plain (OpenSpec.ofChange redactMakesSpec)) redactMakesCard

/-- THE TIED CARD OF 'heliastlaw07.RedactOnce'. -/
def redactOnceCard : Claim7 := { stood := { row := redactOnceRow, standIns := [], harness := (true, "628260f38e2c30fd2f1b1d54a6dc8acd9ab38c930c08ff9f199f6d247eb0f735"), looks := false }, kinds := [], alts := [], laidByText := true, laidKinds := [.data, .data, .data, .listed, .data], laidTests := true, laidLooks := .later }
def RedactOnceCardSaid : Prop := Claim7.holds Tryz.pinned (.plain (OpenSpec.ofChange redactOnceSpec)) redactOnceCard

/-- THE TIED CARD OF 'heliastlaw07.RedactName'. -/
def redactNameCard : Claim7 := { stood := { row := redactNameRow, standIns := [], harness := (true, "628260f38e2c30fd2f1b1d54a6dc8acd9ab38c930c08ff9f199f6d247eb0f735"), looks := false }, kinds := [], alts := [], laidByText := true, laidKinds := [.data, .data, .data, .listed, .data], laidTests := true, laidLooks := .later }
def RedactNameCardSaid : Prop := Claim7.holds Tryz.pinned (.plain (OpenSpec.ofChange redactNameSpec)) redactNameCard

/-- THE TIED CARD OF 'heliastlaw07.RedactContent'. -/
def redactContentCard : Claim7 := { stood := { row := redactContentRow, standIns := [], harness := (true, "628260f38e2c30fd2f1b1d54a6dc8acd9ab38c930c08ff9f199f6d247eb0f735"), looks := false }, kinds := [], alts := [], laidByText := true, laidKinds := [.data, .data, .data, .listed, .data], laidTests := true, laidLooks := .later }
def RedactContentCardSaid : Prop := Claim7.holds Tryz.pinned (.plain (OpenSpec.ofChange redactContentSpec)) redactContentCard

/-- THE SECOND FORM's CARD OF 'heliastlaw07.RedactSeal'. -/
def redactSealUptoCard : Claim7 := { stood := { row := redactSealUptoRow, standIns := [], harness := (true, "628260f38e2c30fd2f1b1d54a6dc8acd9ab38c930c08ff9f199f6d247eb0f735"), looks := false }, kinds := [], alts := [], laidByText := true, laidKinds := [.data, .data, .data, .listed, .data], laidTests := true, laidLooks := .later }
def RedactSealUptoCardSaid : Prop := Claim7.holds Tryz.pinned (.plain (OpenSpec.upto redactSealSpec)) redactSealUptoCard

/-- THE SECOND FORM's CARD OF 'heliastlaw07.RedactKeeps'. -/
def redactKeepsUptoCard : Claim7 := { stood := { row := redactKeepsUptoRow, standIns := [], harness := (true, "628260f38e2c30fd2f1b1d54a6dc8acd9ab38c930c08ff9f199f6d247eb0f735"), looks := false }, kinds := [], alts := [], laidByText := true, laidKinds := [.data, .data, .data, .listed, .data], laidTests := true, laidLooks := .later }
def RedactKeepsUptoCardSaid : Prop := Claim7.holds Tryz.pinned (.plain (OpenSpec.upto redactKeepsSpec)) redactKeepsUptoCard

/-- THE SECOND FORM's CARD OF 'heliastlaw07.RedactNone'. -/
def redactNoneUptoCard : Claim7 := { stood := { row := redactNoneUptoRow, standIns := [], harness := (true, "628260f38e2c30fd2f1b1d54a6dc8acd9ab38c930c08ff9f199f6d247eb0f735"), looks := false }, kinds := [], alts := [], laidByText := true, laidKinds := [.data, .data, .data, .listed, .data], laidTests := true, laidLooks := .later }
def RedactNoneUptoCardSaid : Prop := Claim7.holds Tryz.pinned (.plain (OpenSpec.upto redactNoneSpec)) redactNoneUptoCard

/-- THE SECOND FORM's CARD OF 'heliastlaw07.RedactMakes'. -/
def redactMakesUptoCard : Claim7 := { stood := { row := redactMakesUptoRow, standIns := [], harness := (true, "628260f38e2c30fd2f1b1d54a6dc8acd9ab38c930c08ff9f199f6d247eb0f735"), looks := false }, kinds := [], alts := [], laidByText := true, laidKinds := [.data, .data, .data, .listed, .data], laidTests := true, laidLooks := .later }
def RedactMakesUptoCardSaid : Prop := Claim7.holds Tryz.pinned (.plain (OpenSpec.upto redactMakesSpec)) redactMakesUptoCard

/-- THE SECOND FORM's CARD OF 'heliastlaw07.RedactOnce'. -/
def redactOnceUptoCard : Claim7 := { stood := { row := redactOnceUptoRow, standIns := [], harness := (true, "628260f38e2c30fd2f1b1d54a6dc8acd9ab38c930c08ff9f199f6d247eb0f735"), looks := false }, kinds := [], alts := [], laidByText := true, laidKinds := [.data, .data, .data, .listed, .data], laidTests := true, laidLooks := .later }
def RedactOnceUptoCardSaid : Prop := Claim7.holds Tryz.pinned (.plain (OpenSpec.upto redactOnceSpec)) redactOnceUptoCard

/-- THE SECOND FORM's CARD OF 'heliastlaw07.RedactName'. -/
def redactNameUptoCard : Claim7 := { stood := { row := redactNameUptoRow, standIns := [], harness := (true, "628260f38e2c30fd2f1b1d54a6dc8acd9ab38c930c08ff9f199f6d247eb0f735"), looks := false }, kinds := [], alts := [], laidByText := true, laidKinds := [.data, .data, .data, .listed, .data], laidTests := true, laidLooks := .later }
def RedactNameUptoCardSaid : Prop := Claim7.holds Tryz.pinned (.plain (OpenSpec.upto redactNameSpec)) redactNameUptoCard

/-- THE SECOND FORM's CARD OF 'heliastlaw07.RedactContent'. -/
def redactContentUptoCard : Claim7 := { stood := { row := redactContentUptoRow, standIns := [], harness := (true, "628260f38e2c30fd2f1b1d54a6dc8acd9ab38c930c08ff9f199f6d247eb0f735"), looks := false }, kinds := [], alts := [], laidByText := true, laidKinds := [.data, .data, .data, .listed, .data], laidTests := true, laidLooks := .later }
def RedactContentUptoCardSaid : Prop := Claim7.holds Tryz.pinned (.plain (OpenSpec.upto redactContentSpec)) redactContentUptoCard
end Rows
end Go.Proofs.YtgmfgmbgmjbdhaaGreatDoor
