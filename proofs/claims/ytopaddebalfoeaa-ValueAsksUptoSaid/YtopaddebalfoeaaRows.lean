/-
  NARROWER THAN 'FOR EVERY INPUT', by the rows' own cells (each row's printed sentence says how): ValueAsks: loops.
  DERIVED. THE GIVEN ROWS OF THIS SEAT. 8 by the template 'for every input the law returns true; each argument reads behind the call as it read before'; 0 by the template 'total and deterministic' (their statements: YtopaddebalfoeaaTotals.lean).
  GIVEN WITH THE SEED: the statements are not yours to turn. If you find one false, say at which input.
  Laid BY PROGRAM, IN A SANDBOX (cutbox-rows.mjs): the forced cells as the released guide's own fill.sh prints them over the translation 2b501ecc9a5db6a7… (all of the seat's roots in one cut). By AI agents, Wed Nov 11 2026. No macro, syntax, notation, axiom, sorry.
-/
import Derived.Test.YtopaddebalfoeaaChecked
import GoSem.Claim
import GoSem.ClaimJoined
import GoSem.ClaimMapViews
import Derived.JoinedTies
import Derived.KernelRfl
namespace Go.Proofs.Ytopaddebalfoeaa
/- THE CELL 'sum', in the pinned program and in every row, IS THE sha256 OF THE DUMP (.gsa) THAT YtopaddebalfoeaaProg.lean LOADS. Nothing in Lean hashes anything: it is a label: what it is worth is what the hold of that sum in a sandbox is worth. -/
noncomputable def Try.pinned : Pinned := { name := "ytopaddebalfoeaa", sum := "2b501ecc9a5db6a7608e08b6d72b0252ed55cd80bf0e47d54dc95ad55c248c54", checked := Try.checked }
namespace Rows
def none {H : Type} : Left H := { results := [], args := [] }

/-- 'heliastlaw02.ValueNumbers': WHATEVER THE INPUT: true; the input reads as it did. -/
def valueNumbersSpec : ChangeSpec := { name := "valueNumbers", fn := fun _ => fun
  | [d1, d2] => { results := [.lit (.bool true)], args := [d1, d2] }
  | _ => none }
def valueNumbersRow : OpenClaim := { program := "ytopaddebalfoeaa", sum := "2b501ecc9a5db6a7608e08b6d72b0252ed55cd80bf0e47d54dc95ad55c248c54", func := "heliast/heliastlaw02.ValueNumbers", spec := "valueNumbers", inPlace := ["internal/bytealg.abigen_runtime_cmpstring"], unfollowed := true, recurses := true, apart := false }
def ValueNumbersSaid : Prop := valueNumbersRow.holds Try.pinned (OpenSpec.ofChange valueNumbersSpec)

/-- ITS FALSE NEIGHBOUR: 'it returns false'. Refute it at one input. -/
def valueNumbersWrong : ChangeSpec := { name := "valueNumbers", fn := fun _ => fun
  | [d1, d2] => { results := [.lit (.bool false)], args := [d1, d2] }
  | _ => none }
def ValueNumbersWrongFalsely : Prop := valueNumbersRow.holds Try.pinned (OpenSpec.ofChange valueNumbersWrong)

/-- 'heliastlaw02.ValueTexts': WHATEVER THE INPUT: true; the input reads as it did. -/
def valueTextsSpec : ChangeSpec := { name := "valueTexts", fn := fun _ => fun
  | [d] => { results := [.lit (.bool true)], args := [d] }
  | _ => none }
def valueTextsRow : OpenClaim := { program := "ytopaddebalfoeaa", sum := "2b501ecc9a5db6a7608e08b6d72b0252ed55cd80bf0e47d54dc95ad55c248c54", func := "heliast/heliastlaw02.ValueTexts", spec := "valueTexts", inPlace := ["internal/bytealg.abigen_runtime_cmpstring"], unfollowed := true, recurses := true, apart := false }
def ValueTextsSaid : Prop := valueTextsRow.holds Try.pinned (OpenSpec.ofChange valueTextsSpec)

/-- ITS FALSE NEIGHBOUR: 'it returns false'. Refute it at one input. -/
def valueTextsWrong : ChangeSpec := { name := "valueTexts", fn := fun _ => fun
  | [d] => { results := [.lit (.bool false)], args := [d] }
  | _ => none }
def ValueTextsWrongFalsely : Prop := valueTextsRow.holds Try.pinned (OpenSpec.ofChange valueTextsWrong)

/-- 'heliastlaw02.ValueDeep': WHATEVER THE INPUT: true; the input reads as it did. -/
def valueDeepSpec : ChangeSpec := { name := "valueDeep", fn := fun _ => fun
  | [d1, d2] => { results := [.lit (.bool true)], args := [d1, d2] }
  | _ => none }
def valueDeepRow : OpenClaim := { program := "ytopaddebalfoeaa", sum := "2b501ecc9a5db6a7608e08b6d72b0252ed55cd80bf0e47d54dc95ad55c248c54", func := "heliast/heliastlaw02.ValueDeep", spec := "valueDeep", inPlace := ["internal/bytealg.abigen_runtime_cmpstring", "slices.overlaps[string]", "slices.overlaps[heliast/api.Val]"], unfollowed := true, recurses := true, apart := false }
def ValueDeepSaid : Prop := valueDeepRow.holds Try.pinned (OpenSpec.ofChange valueDeepSpec)

/-- ITS FALSE NEIGHBOUR: 'it returns false'. Refute it at one input. -/
def valueDeepWrong : ChangeSpec := { name := "valueDeep", fn := fun _ => fun
  | [d1, d2] => { results := [.lit (.bool false)], args := [d1, d2] }
  | _ => none }
def ValueDeepWrongFalsely : Prop := valueDeepRow.holds Try.pinned (OpenSpec.ofChange valueDeepWrong)

/-- 'heliastlaw02.ValueSpoilt': WHATEVER THE INPUT: true; the input reads as it did. -/
def valueSpoiltSpec : ChangeSpec := { name := "valueSpoilt", fn := fun _ => fun
  | [d1, d2, d3] => { results := [.lit (.bool true)], args := [d1, d2, d3] }
  | _ => none }
def valueSpoiltRow : OpenClaim := { program := "ytopaddebalfoeaa", sum := "2b501ecc9a5db6a7608e08b6d72b0252ed55cd80bf0e47d54dc95ad55c248c54", func := "heliast/heliastlaw02.ValueSpoilt", spec := "valueSpoilt", inPlace := ["internal/bytealg.abigen_runtime_cmpstring", "slices.overlaps[string]", "slices.overlaps[heliast/api.Val]"], unfollowed := true, recurses := true, apart := false }
def ValueSpoiltSaid : Prop := valueSpoiltRow.holds Try.pinned (OpenSpec.ofChange valueSpoiltSpec)

/-- ITS FALSE NEIGHBOUR: 'it returns false'. Refute it at one input. -/
def valueSpoiltWrong : ChangeSpec := { name := "valueSpoilt", fn := fun _ => fun
  | [d1, d2, d3] => { results := [.lit (.bool false)], args := [d1, d2, d3] }
  | _ => none }
def ValueSpoiltWrongFalsely : Prop := valueSpoiltRow.holds Try.pinned (OpenSpec.ofChange valueSpoiltWrong)

/-- 'heliastlaw02.ValueLaid': WHATEVER THE INPUT: true; the input reads as it did. -/
def valueLaidSpec : ChangeSpec := { name := "valueLaid", fn := fun _ => fun
  | [d1, d2, d3, d4] => { results := [.lit (.bool true)], args := [d1, d2, d3, d4] }
  | _ => none }
def valueLaidRow : OpenClaim := { program := "ytopaddebalfoeaa", sum := "2b501ecc9a5db6a7608e08b6d72b0252ed55cd80bf0e47d54dc95ad55c248c54", func := "heliast/heliastlaw02.ValueLaid", spec := "valueLaid", inPlace := ["internal/bytealg.abigen_runtime_cmpstring", "slices.overlaps[string]", "slices.overlaps[heliast/api.Val]"], unfollowed := true, recurses := true, apart := false }
def ValueLaidSaid : Prop := valueLaidRow.holds Try.pinned (OpenSpec.ofChange valueLaidSpec)

/-- ITS FALSE NEIGHBOUR: 'it returns false'. Refute it at one input. -/
def valueLaidWrong : ChangeSpec := { name := "valueLaid", fn := fun _ => fun
  | [d1, d2, d3, d4] => { results := [.lit (.bool false)], args := [d1, d2, d3, d4] }
  | _ => none }
def ValueLaidWrongFalsely : Prop := valueLaidRow.holds Try.pinned (OpenSpec.ofChange valueLaidWrong)

/-- 'heliastlaw02.ValueCopy': WHATEVER THE INPUT: true; the input reads as it did. -/
def valueCopySpec : ChangeSpec := { name := "valueCopy", fn := fun _ => fun
  | [d1, d2] => { results := [.lit (.bool true)], args := [d1, d2] }
  | _ => none }
def valueCopyRow : OpenClaim := { program := "ytopaddebalfoeaa", sum := "2b501ecc9a5db6a7608e08b6d72b0252ed55cd80bf0e47d54dc95ad55c248c54", func := "heliast/heliastlaw02.ValueCopy", spec := "valueCopy", inPlace := ["internal/bytealg.abigen_runtime_cmpstring", "slices.overlaps[string]", "slices.overlaps[heliast/api.Val]"], unfollowed := true, recurses := true, apart := false }
def ValueCopySaid : Prop := valueCopyRow.holds Try.pinned (OpenSpec.ofChange valueCopySpec)

/-- ITS FALSE NEIGHBOUR: 'it returns false'. Refute it at one input. -/
def valueCopyWrong : ChangeSpec := { name := "valueCopy", fn := fun _ => fun
  | [d1, d2] => { results := [.lit (.bool false)], args := [d1, d2] }
  | _ => none }
def ValueCopyWrongFalsely : Prop := valueCopyRow.holds Try.pinned (OpenSpec.ofChange valueCopyWrong)

/-- 'heliastlaw02.ValueOrder': WHATEVER THE INPUT: true; the input reads as it did. -/
def valueOrderSpec : ChangeSpec := { name := "valueOrder", fn := fun _ => fun
  | [d1, d2, d3, d4, d5] => { results := [.lit (.bool true)], args := [d1, d2, d3, d4, d5] }
  | _ => none }
def valueOrderRow : OpenClaim := { program := "ytopaddebalfoeaa", sum := "2b501ecc9a5db6a7608e08b6d72b0252ed55cd80bf0e47d54dc95ad55c248c54", func := "heliast/heliastlaw02.ValueOrder", spec := "valueOrder", inPlace := ["internal/bytealg.abigen_runtime_cmpstring", "slices.overlaps[string]", "slices.overlaps[heliast/api.Val]"], unfollowed := true, recurses := true, apart := false }
def ValueOrderSaid : Prop := valueOrderRow.holds Try.pinned (OpenSpec.ofChange valueOrderSpec)

/-- ITS FALSE NEIGHBOUR: 'it returns false'. Refute it at one input. -/
def valueOrderWrong : ChangeSpec := { name := "valueOrder", fn := fun _ => fun
  | [d1, d2, d3, d4, d5] => { results := [.lit (.bool false)], args := [d1, d2, d3, d4, d5] }
  | _ => none }
def ValueOrderWrongFalsely : Prop := valueOrderRow.holds Try.pinned (OpenSpec.ofChange valueOrderWrong)

/-- 'heliastlaw02.ValueAsks': WHATEVER THE INPUT: true; the input reads as it did. -/
def valueAsksSpec : ChangeSpec := { name := "valueAsks", fn := fun _ => fun
  | [d1, d2, d3, d4, d5, d6, d7, d8] => { results := [.lit (.bool true)], args := [d1, d2, d3, d4, d5, d6, d7, d8] }
  | _ => none }
def valueAsksRow : OpenClaim := { program := "ytopaddebalfoeaa", sum := "2b501ecc9a5db6a7608e08b6d72b0252ed55cd80bf0e47d54dc95ad55c248c54", func := "heliast/heliastlaw02.ValueAsks", spec := "valueAsks", inPlace := ["internal/bytealg.abigen_runtime_cmpstring", "slices.overlaps[string]", "slices.overlaps[heliast/api.Val]"], unfollowed := true, recurses := true, loops := true, apart := false }
def ValueAsksSaid : Prop := valueAsksRow.holds Try.pinned (OpenSpec.ofChange valueAsksSpec)

/-- ITS FALSE NEIGHBOUR: 'it returns false'. Refute it at one input. -/
def valueAsksWrong : ChangeSpec := { name := "valueAsks", fn := fun _ => fun
  | [d1, d2, d3, d4, d5, d6, d7, d8] => { results := [.lit (.bool false)], args := [d1, d2, d3, d4, d5, d6, d7, d8] }
  | _ => none }
def ValueAsksWrongFalsely : Prop := valueAsksRow.holds Try.pinned (OpenSpec.ofChange valueAsksWrong)

/- THE SECOND FORM. 'bulk': how many values and letters a reading holds, each counted each time it is reached (what is shared counts as often as it is met; a slice's spare places count too). A statement '..UptoSaid' is the law's where the arguments, and the package variables that the reading takes, are together of bulk at most 1048576: NARROWER than '..Said'. Prove '..Said' where nothing that the law and all that it calls make is longer than what came in: it says more and counts as full. Else prove '..UptoSaid'. A law counts once. -/
mutual
def uptoBulk {H : Type} : DataW H → Nat
  | .lit (.string bytes) => bytes.length + 1
  | .lit _ => 1
  | .nil => 1
  | .ptr d => uptoBulk d + 1
  | .slice elems spare => uptoBulkAll elems + uptoBulkAll spare + 1
  | .agg parts => uptoBulkAll parts + 1
  | .iface _ d => uptoBulk d + 1
  | .map entries => uptoBulkEntries entries + 1
  | .held _ => 1
def uptoBulkAll {H : Type} : List (DataW H) → Nat
  | [] => 0
  | d :: r => uptoBulk d + uptoBulkAll r
def uptoBulkEntries {H : Type} : List (Lit × DataW H) → Nat
  | [] => 0
  | x :: r => uptoBulkEntry x + uptoBulkEntries r
def uptoBulkEntry {H : Type} : Lit × DataW H → Nat
  | (.string bytes, d) => bytes.length + uptoBulk d + 1
  | (_, d) => uptoBulk d + 1
 end
def uptoSmall : (H : Type) → List (DataW H) → Bool := fun _ ds => decide (uptoBulkAll ds ≤ 1048576)
def OpenSpec.upto (s : _root_.Go.ChangeSpec) : _root_.Go.OpenSpec := { _root_.Go.OpenSpec.ofChange s with cond := some uptoSmall }

/-- 'heliastlaw02.ValueNumbers', WHERE WHAT IT READS IS OF BULK AT MOST 1048576: true; the input reads as it did. -/
def valueNumbersUptoRow : OpenClaim := { program := "ytopaddebalfoeaa", sum := "2b501ecc9a5db6a7608e08b6d72b0252ed55cd80bf0e47d54dc95ad55c248c54", func := "heliast/heliastlaw02.ValueNumbers", spec := "valueNumbers", inPlace := ["internal/bytealg.abigen_runtime_cmpstring"], unfollowed := true, recurses := true, apart := false, narrowed := true }
def ValueNumbersUptoSaid : Prop := valueNumbersUptoRow.holds Try.pinned (OpenSpec.upto valueNumbersSpec)

/-- 'heliastlaw02.ValueTexts', WHERE WHAT IT READS IS OF BULK AT MOST 1048576: true; the input reads as it did. -/
def valueTextsUptoRow : OpenClaim := { program := "ytopaddebalfoeaa", sum := "2b501ecc9a5db6a7608e08b6d72b0252ed55cd80bf0e47d54dc95ad55c248c54", func := "heliast/heliastlaw02.ValueTexts", spec := "valueTexts", inPlace := ["internal/bytealg.abigen_runtime_cmpstring"], unfollowed := true, recurses := true, apart := false, narrowed := true }
def ValueTextsUptoSaid : Prop := valueTextsUptoRow.holds Try.pinned (OpenSpec.upto valueTextsSpec)

/-- 'heliastlaw02.ValueDeep', WHERE WHAT IT READS IS OF BULK AT MOST 1048576: true; the input reads as it did. -/
def valueDeepUptoRow : OpenClaim := { program := "ytopaddebalfoeaa", sum := "2b501ecc9a5db6a7608e08b6d72b0252ed55cd80bf0e47d54dc95ad55c248c54", func := "heliast/heliastlaw02.ValueDeep", spec := "valueDeep", inPlace := ["internal/bytealg.abigen_runtime_cmpstring", "slices.overlaps[string]", "slices.overlaps[heliast/api.Val]"], unfollowed := true, recurses := true, apart := false, narrowed := true }
def ValueDeepUptoSaid : Prop := valueDeepUptoRow.holds Try.pinned (OpenSpec.upto valueDeepSpec)

/-- 'heliastlaw02.ValueSpoilt', WHERE WHAT IT READS IS OF BULK AT MOST 1048576: true; the input reads as it did. -/
def valueSpoiltUptoRow : OpenClaim := { program := "ytopaddebalfoeaa", sum := "2b501ecc9a5db6a7608e08b6d72b0252ed55cd80bf0e47d54dc95ad55c248c54", func := "heliast/heliastlaw02.ValueSpoilt", spec := "valueSpoilt", inPlace := ["internal/bytealg.abigen_runtime_cmpstring", "slices.overlaps[string]", "slices.overlaps[heliast/api.Val]"], unfollowed := true, recurses := true, apart := false, narrowed := true }
def ValueSpoiltUptoSaid : Prop := valueSpoiltUptoRow.holds Try.pinned (OpenSpec.upto valueSpoiltSpec)

/-- 'heliastlaw02.ValueLaid', WHERE WHAT IT READS IS OF BULK AT MOST 1048576: true; the input reads as it did. -/
def valueLaidUptoRow : OpenClaim := { program := "ytopaddebalfoeaa", sum := "2b501ecc9a5db6a7608e08b6d72b0252ed55cd80bf0e47d54dc95ad55c248c54", func := "heliast/heliastlaw02.ValueLaid", spec := "valueLaid", inPlace := ["internal/bytealg.abigen_runtime_cmpstring", "slices.overlaps[string]", "slices.overlaps[heliast/api.Val]"], unfollowed := true, recurses := true, apart := false, narrowed := true }
def ValueLaidUptoSaid : Prop := valueLaidUptoRow.holds Try.pinned (OpenSpec.upto valueLaidSpec)

/-- 'heliastlaw02.ValueCopy', WHERE WHAT IT READS IS OF BULK AT MOST 1048576: true; the input reads as it did. -/
def valueCopyUptoRow : OpenClaim := { program := "ytopaddebalfoeaa", sum := "2b501ecc9a5db6a7608e08b6d72b0252ed55cd80bf0e47d54dc95ad55c248c54", func := "heliast/heliastlaw02.ValueCopy", spec := "valueCopy", inPlace := ["internal/bytealg.abigen_runtime_cmpstring", "slices.overlaps[string]", "slices.overlaps[heliast/api.Val]"], unfollowed := true, recurses := true, apart := false, narrowed := true }
def ValueCopyUptoSaid : Prop := valueCopyUptoRow.holds Try.pinned (OpenSpec.upto valueCopySpec)

/-- 'heliastlaw02.ValueOrder', WHERE WHAT IT READS IS OF BULK AT MOST 1048576: true; the input reads as it did. -/
def valueOrderUptoRow : OpenClaim := { program := "ytopaddebalfoeaa", sum := "2b501ecc9a5db6a7608e08b6d72b0252ed55cd80bf0e47d54dc95ad55c248c54", func := "heliast/heliastlaw02.ValueOrder", spec := "valueOrder", inPlace := ["internal/bytealg.abigen_runtime_cmpstring", "slices.overlaps[string]", "slices.overlaps[heliast/api.Val]"], unfollowed := true, recurses := true, apart := false, narrowed := true }
def ValueOrderUptoSaid : Prop := valueOrderUptoRow.holds Try.pinned (OpenSpec.upto valueOrderSpec)

/-- 'heliastlaw02.ValueAsks', WHERE WHAT IT READS IS OF BULK AT MOST 1048576: true; the input reads as it did. -/
def valueAsksUptoRow : OpenClaim := { program := "ytopaddebalfoeaa", sum := "2b501ecc9a5db6a7608e08b6d72b0252ed55cd80bf0e47d54dc95ad55c248c54", func := "heliast/heliastlaw02.ValueAsks", spec := "valueAsks", inPlace := ["internal/bytealg.abigen_runtime_cmpstring", "slices.overlaps[string]", "slices.overlaps[heliast/api.Val]"], unfollowed := true, recurses := true, loops := true, apart := false, narrowed := true }
def ValueAsksUptoSaid : Prop := valueAsksUptoRow.holds Try.pinned (OpenSpec.upto valueAsksSpec)

end Rows
end Go.Proofs.Ytopaddebalfoeaa
