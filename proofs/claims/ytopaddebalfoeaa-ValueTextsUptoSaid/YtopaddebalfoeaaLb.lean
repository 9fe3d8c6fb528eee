/- The statement heliastlaw02.ValueTexts, where what it reads is of bulk at most 1048576: whatever list of texts comes in, the call returns true, and the list reads as it did. -/
import Derived.Test.YtopaddebalfoeaaRows
import Derived.Test.YtopaddebalfoeaaVd
import Derived.Test.YtopaddebalfoeaaEr
import Derived.JoinedCond
import Derived.Carry
import Derived.SliceStrings
namespace Go.Proofs.Ytopaddebalfoeaa.valueTexts
open Go Go.ChangeShapes Go.WideShapes Go.ChangeAt Go.RowKit Go.Eng
set_option linter.unusedVariables false
theorem own : ownKnob Try.prog.godebug = none := by kernel_rfl
theorem bulk_strs {H : Type} : ∀ l : List ByteArray, Rows.uptoBulkAll (Go.ChangeShapes.strs (H := H) l) = bulk l
  | [] => by simp [Go.ChangeShapes.strs, Rows.uptoBulkAll, bulk]
  | s :: l => by
    have ih := bulk_strs (H := H) l
    simp only [Go.ChangeShapes.strs, List.map_cons, Rows.uptoBulkAll, Rows.uptoBulk, bulk, Array.length_toList] at ih ⊢
    rw [ih]
    show s.size + 1 + bulk l = _
    omega
theorem rep_strs {W : World} {a : Addr} {len cap : Nat} {ss : List ByteArray} (hl : len ≤ ss.length) (hc : len ≤ cap) (hm : cap ≤ maxLen) (h : ∀ i, i < ss.length → W.cell? (a.add i) = some (.string (ss.getD i ByteArray.empty))) :
    Rep (okOf noRho noHp) noRho W (strs (ss.take len)) (.slice (some a) len cap) := by
  have e : ((ss.take len).map encS).length = len := by rw [List.length_map, List.length_take]; omega
  have hr := Rep.sl (ok := okOf noRho noHp) (ρ := noRho) (w := W) ((ss.take len).map encS) a cap 1 (fun i _ => .string (ss.getD i ByteArray.empty)) (by rw [e]; exact hc) hm (fun hn => ⟨ok_all _, by
      have h0 : 0 < ss.length := by
        cases hs : ss with
        | nil => rw [hs] at hn; simp at hn
        | cons x r => simp
      have := h 0 h0
      simp only [World.cell?, add_block] at this
      rcases Nat.lt_or_ge a.block W.heap.size with h' | h'
      · exact h'
      · simp [Array.getElem?_eq_none h'] at this⟩) (strs_sz _) (fun i cs j hi hj => by
      have hi2 : i < len := by rw [← e]; exact (List.getElem?_eq_some_iff.1 hi).1
      have hcs : cs.length = 1 := strs_sz _ cs (List.mem_of_getElem? hi)
      have hj0 : j = 0 := by omega
      subst hj0
      simp only [Nat.mul_one, Nat.add_zero]
      exact ⟨h i (by omega), rfl⟩) (fun i cs j u hi hj => by
      have hi2 : i < len := by rw [← e]; exact (List.getElem?_eq_some_iff.1 hi).1
      have hil : i < ss.length := by omega
      rw [List.getElem?_map, List.getElem?_take, if_pos hi2, List.getElem?_eq_getElem hil] at hi
      cases hi
      match j with
      | 0 =>
        cases hj
        have : ss.getD i ByteArray.empty = ss[i] := by simp [List.getD, hil]
        rw [this]
        exact .v _
      | j + 1 => simp [encS] at hj)
  rw [e] at hr
  exact hr
theorem walk (l : List ByteArray) (v : Value) (w : World) (hv : Rep (okOf noRho noHp) noRho w (strs l) v) (hl : bulk l ≤ 4000000) :
    Calls Try.prog 4 #[v] w fun e w' => e = .returned (.bool true) ∧ Below w.heap.size w w' := by
  refine ACall.calls (textsLaw_spec l hl noHp) w [v] ⟨rfl, fun j u x hu hx => ?_⟩
  match j with
  | 0 => simp at hu hx; subst hu hx; exact hv
  | j + 1 => simp at hu
theorem contract (H : Type) (enc : TypeId × Value → H) (W : World) (base : Nat) (args : Array Value) (ds gs : List (DataW H)) (before : List MemPlace)
    (hval : ∀ (j : Nat) t v, Try.f4.params[j]? = some t → args[j]? = some v → Value.okWide Try.prog W .any base t v)
    (hW : DataW.Whole enc Try.prog Try.f4.params.toList Rows.valueTextsSpec.vars false W args.toList ds gs before) (hk : Rows.uptoSmall H (ds ++ gs) = true) :
    Calls Try.prog 4 args W fun e W' => ∃ v, e = .returned v ∧ Rows.valueTextsSpec.post enc Try.prog Try.f4 false true false false W args v W' := by
  have hW' := hW
  have hlt := hW.lt
  obtain ⟨p, q, hA0, hV, rfl, hfz, hnd⟩ := hW
  have hA : DataW.TrodAll enc Try.prog W 0 (fun _ => true) true Try.f4.params.toList args.toList ds p := hA0
  rw [Try.params4] at hA hval
  obtain ⟨v0, vs0, d0, ds0, p0, q0, hargs, rfl, rfl, h0, r0⟩ := trodAll_cons hA
  obtain ⟨rfl, rfl, rfl⟩ := trodAll_nil r0
  obtain rfl : args = #[v0] := by cases args; simp_all
  obtain ⟨rfl, rfl⟩ := trodVars_none hV
  clear hA0
  simp only [List.append_nil] at hW' hlt hk
  have hkb : Rows.uptoBulkAll [d0] ≤ 1048576 := of_decide_eq_true hk
  obtain ⟨l, hrep, hbl⟩ : ∃ l, Rep (okOf noRho noHp) noRho W (strs l) v0 ∧ bulk l ≤ 4000000 := by
    obtain ⟨a0, len0, cap0, rfl⟩ := okWide_slice Try.underlying24 (hval 0 24 v0 rfl rfl)
    obtain ⟨fuel, hf⟩ := h0
    rcases open_strings Try.underlying24 Try.underlying9 (by kernel_rfl) hf with ⟨hcs, hx⟩ | ⟨a, len, cap, ss, hcs, _, hl, hm, hz, hx, hcell, hsz⟩
    · obtain ⟨rfl, rfl, rfl⟩ : a0 = none ∧ len0 = 0 ∧ cap0 = 0 := by simpa [Value.cells] using hcs
      exact ⟨[], .nil, by decide⟩
    · obtain ⟨rfl, rfl, rfl⟩ : a0 = some a ∧ len0 = len ∧ cap0 = cap := by simpa [Value.cells] using hcs
      have hz' : ss.length = cap0 := by simpa using hz
      refine ⟨ss.take len0, rep_strs (by omega) hl hm hcell, ?_⟩
      have hd : d0 = .slice (Go.ChangeShapes.strs (ss.take len0)) (Go.ChangeShapes.strs (ss.drop len0)) := by simpa using congrArg (·.1) hx
      subst hd
      simp only [Rows.uptoBulkAll, Rows.uptoBulk, bulk_strs] at hkb
      omega
  refine (walk l v0 W hrep hbl).mono fun e W' ⟨he, hg⟩ => ?_
  subst he
  exact ⟨_, rfl, post_below (pa := p0) (pv := []) hW' (fun _ _ _ => (trodAll_cons_mk (shut_bool Try.underlying4 _) trodAll_mk0)) (fun sp hsp => by
      have := trodAll_cons_mk (WideElems.Trod_stays (sp' := sp) (by kernel_rfl) (by kernel_rfl) (of_decide_eq_true (by kernel_rfl)) h0 (fun x hx => hg.same (hlt x hx)) (fun x hx => hsp x hx)) trodAll_mk0
      rw [List.append_nil] at this
      exact this) (fun _ _ => rfl) (by simp)
    hg (ok_one (by kernel_rfl) rfl (okWide_bool_mk Try.underlying4 _))⟩
set_option maxRecDepth 100000 in
theorem lifted (os : Os) (started : os.Started) (H : Type) (enc : TypeId × Value → H) (F : Stop.Interp) :
    ReturnsInHanded {} Try.checked os 4 .any ((Rows.OpenSpec.upto Rows.valueTextsSpec).pre6 enc Try.prog Try.f4 Rows.valueTextsUptoRow.domain false) (((Rows.OpenSpec.upto Rows.valueTextsSpec).at F).post enc Try.prog Try.f4 false true false false) := by
  refine returnsInHanded_of_cond (C := Try.checked) (s := Rows.OpenSpec.upto Rows.valueTextsSpec) (k := Rows.uptoSmall) rfl own started (by kernel_rfl) Try.func4
    (OpenSpec.witness (enc := enc) (C := Try.checked) (s := Rows.OpenSpec.upto Rows.valueTextsSpec) (k := Rows.uptoSmall) rfl false ⟨#[], #[.slice none 0 0], []⟩ 8 (by kernel_rfl) (by kernel_rfl) (by kernel_rfl)
      (x := ([.nil], [], [])) (by kernel_rfl) rfl (by kernel_rfl)) ?_
  intro W base args ds gs before hval hW _ hk _
  exact contract H enc W base args ds gs before hval hW hk
theorem over : Rows.valueTextsUptoRow.holds Try.pinned (Rows.OpenSpec.upto Rows.valueTextsSpec) :=
  OpenClaim.holds_of_cond 4 Try.f4 rfl rfl rfl rfl rfl rfl rfl ⟨rfl, rfl, rfl, rfl, rfl⟩ rfl rfl rfl rfl rfl (by kernel_rfl) Try.func4 (by kernel_rfl)
    (of_decide_eq_true (by kernel_rfl)) (by unfold Func.isWrapper; first | (rw [if_pos (by decide +kernel)]; kernel_rfl) | (rw [if_neg (by decide +kernel)]; exact ⟨rfl, rfl⟩))
    (fun os started H enc _ F => lifted os started H enc F)
theorem proved : Rows.ValueTextsUptoSaid := over
end Go.Proofs.Ytopaddebalfoeaa.valueTexts
