/- What the row's condition on package variables gives a proof. -/
import Derived.Test.YtgmfgmbgmjbdhaaGreatDoorKx21
import Derived.Test.YtgmfgmbgmjbdhaaGreatDoorRows
import Derived.Test.YtgmfgmbgmjbdhaaGreatDoorKx23
import Derived.ProofKit
import Derived.MakeChecks
import Derived.LaidMore
import Derived.LaidOnce
import Derived.Stop.LaidErr
import Derived.Stop.Joined
import Derived.SevenTiedAt
import Derived.ShutString
import Derived.ChangeMaps5
namespace Go.Proofs.YtgmfgmbgmjbdhaaGreatDoor
open Go Go.ChangeShapes Go.WideShapes Go.ChangeAt Go.RowKit Go.Eng
set_option linter.unusedSimpArgs false
set_option linter.unusedVariables false
set_option maxRecDepth 100000
/-- A world that holds the two tables. -/
def GlobW (W : World) : Prop := ∃ ρ H, HRel ρ H W ∧ (∀ k, ¬ Eng.Own ρ H k) ∧ Glob H
theorem tab_obj {W : World} {name : String} {k : IntKind} {zs : List Int} {g : Nat} (hg : Tryz.prog.globalNamed name = some g) (h : Lib.TabIs Tryz.prog W name k zs) : ∃ t p, W.heap[g]? = some (.cells (zs.map fun z => Value.int k z).toArray t p) := by
  unfold Lib.TabIs World.var? at h
  rw [hg] at h
  simp only [Option.bind_some] at h
  split at h
  · rename_i cs t p e
    cases h
    exact ⟨t, p, e⟩
  · cases h
theorem globW_of {W : World} {g0 g1 : Nat} (n0 : Tryz.prog.globalNamed "internal/strconv.uint64pow10" = some g0) (n1 : Tryz.prog.globalNamed "strings.asciiSpace" = some g1)
    (h0 : Lib.TabIs Tryz.prog W "internal/strconv.uint64pow10" .u64 Lib.pow10Tab) (h1 : Lib.TabIs Tryz.prog W "strings.asciiSpace" .u8 Lib.asciiSpaceTab) : GlobW W := by
  obtain ⟨t0, p0, e0⟩ := tab_obj n0 h0
  obtain ⟨t1, p1, e1⟩ := tab_obj n1 h1
  let H : Hp := fun i => if i = 0 then some (.raw g0 (.cells (Lib.pow10Tab.map fun z => Value.int .u64 z).toArray t0 p0)) else if i = 1 then some (.raw g1 (.cells (Lib.asciiSpaceTab.map fun z => Value.int .u8 z).toArray t1 p1)) else none
  let ρ : Rho := fun i => if i < 2 then some (.bool true) else none
  have hb : ∀ i v, ρ i = some v → v = .bool true := fun i v h => by
    simp only [ρ] at h
    split at h
    · cases h; rfl
    · cases h
  have hno : ∀ k, ¬ Eng.Own ρ H k := by
    rintro k ⟨i, ob, v, _, h2, h3⟩
    rw [hb i v h2] at h3
    cases h3
  refine ⟨ρ, H, ⟨?_, ?_, ⟨2, fun id h => if_neg (by omega)⟩, fun i v k h2 h3 => by rw [hb i v h2] at h3; cases h3⟩, hno, ⟨g0, t0, p0, n0, rfl⟩, ⟨g1, t1, p1, n1, rfl⟩⟩
  · intro i ob h
    simp only [H] at h
    split at h
    · rename_i hi
      subst hi
      cases h
      exact ⟨.bool true, rfl, rfl, hno _, e0, _, _, _, rfl⟩
    · split at h
      · rename_i hi
        subst hi
        cases h
        exact ⟨.bool true, rfl, rfl, hno _, e1, _, _, _, rfl⟩
      · cases h
  · intro i i' ob ob' v v' k _ _ h3 _ h5 _
    rw [hb i v h3] at h5
    cases h5
theorem GlobW.of_laid {W : World} (h : laidMetH Tryz.prog Rows.redactNoneRow.laid W) : GlobW W := by
  rw [MakeChecks.laidMetH_plain _ _ _ (by kernel_rfl)] at h
  have a := laidMet.tail (laidMet.tail h)
  have b := laidMet.tail (laidMet.tail a)
  have n0 : Tryz.prog.globalNamed "internal/strconv.uint64pow10" = some 3 := by kernel_rfl
  have n1 : Tryz.prog.globalNamed "strings.asciiSpace" = some 0 := by kernel_rfl
  have d0 : (Rows.laid_internal_strconv_uint64pow10 : DataW Unit) = Lib.tabData .u64 Lib.pow10Tab := by kernel_rfl
  have d1 : (Rows.laid_strings_asciiSpace : DataW Unit) = Lib.tabData .u8 Lib.asciiSpaceTab := by kernel_rfl
  rw [d0] at a
  rw [d1] at b
  exact globW_of n0 n1 (Lib.tabIs_of_head (t := 173) (e := 122) (n := 20) n0 (by kernel_rfl) (by kernel_rfl) (by kernel_rfl) (by kernel_rfl) (by kernel_rfl) a)
    (Lib.tabIs_of_head (t := 95) (e := 5) (n := 256) n1 (by kernel_rfl) (by kernel_rfl) (by kernel_rfl) (by kernel_rfl) (by kernel_rfl) b)
/-- A contract, as a call. -/
theorem ACall.callsG {P : Program} {f : Nat} {us : List AV} {r : Value} {ρ : Rho} {H : Hp} (h : ACall P f us H (IsR H (.v r))) (W : World) (hh : HRel ρ H W) (hno : ∀ k, ¬ Eng.Own ρ H k) (vals : List Value) (hv : Reps (okOf ρ H) ρ W us vals) :
    Calls P f vals.toArray W fun e w' => e = .returned r ∧ Below W.heap.size W w' :=
  (h.2 ρ W vals hh hv).mono fun e w' ⟨x, ρ', u, H', h1, h2, h3, h4, h5, h6⟩ => ⟨by rw [h1]; subst h5; rw [rep_v h4], ⟨h3.os, h3.tape, h3.output, h3.size, fun k hk => h3.block k hk (hno k)⟩⟩
theorem rep_g {W : World} {ρ : Rho} {H : Hp} {u : AV} {x : Value} (hno : ∀ k, ¬ Eng.Own ρ H k) (h : Rep (okOf noRho noHp) noRho W u x) : Rep (okOf ρ H) ρ W u x := h.mono (fun k _ _ => ⟨hno k, rfl⟩) (fun _ _ h => by cases h)
theorem own : ownKnob Tryz.prog.godebug = none := by kernel_rfl
/-- The door's own heap meets the condition. -/
theorem door_met (os : Os) (args : Array Value) : laidMetH Tryz.prog Rows.redactNoneRow.laid ((World.doorLaid Tryz.prog 48 os).forCall (fun _ _ => 0) ⟨#[], args, []⟩).memory :=
  laidMetH_of_parts3 (fuel := 8) (laidMet_of_run' 8 (by kernel_rfl) (by kernel_rfl)) (by kernel_rfl) (by kernel_rfl)
end Go.Proofs.YtgmfgmbgmjbdhaaGreatDoor
