/- RedactSeal: what is sealed has the right hash, whatever is unsigned; with another field, just where all of it has the same hash. -/
import Derived.Test.YtgmfgmbgmjbdhaaGreatDoorKv40
namespace Go.Proofs.YtgmfgmbgmjbdhaaGreatDoor
open Go Go.RowKit Go.Eng
set_option linter.unusedSimpArgs false
set_option linter.unusedVariables false
set_option maxRecDepth 100000
set_option maxHeartbeats 4000000
theorem wideN_O (c : List Int) (k : Int) : ∀ j, O (wideN c k j)
  | 0 => O.empty
  | j + 1 => (wideN_O c k j).with _ _
theorem wide_O (c : List Int) (k : Int) : O (wideV c k) := wideN_O c k _
theorem seal_hashed {v : V} (h : O v) : hashedV (sealedV v) = true := by
  have e : getV (sealedV v) hashesB = (sealV (hashB v), true) := h.get_with _ _
  rw [hashed_of e, h.hash_sealed]; simp
end Go.Proofs.YtgmfgmbgmjbdhaaGreatDoor
