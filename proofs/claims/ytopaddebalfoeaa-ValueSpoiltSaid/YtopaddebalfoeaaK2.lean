/- The statement heliastlaw02.ValueSpoilt: whatever comes in, the call returns true, and all reads as it did. -/
import Derived.Test.YtopaddebalfoeaaRows
import Derived.Test.YtopaddebalfoeaaL2
import Derived.Test.YtopaddebalfoeaaRo
namespace Go.Proofs.Ytopaddebalfoeaa.valueSpoilt
open Go Go.ChangeShapes Go.WideShapes Go.ChangeAt Go.RowKit Go.Eng
set_option linter.unusedVariables false
theorem own : ownKnob Try.prog.godebug = none := by kernel_rfl
theorem walk (c0 : List Int) (v0 : Value) (b0 : Bys c0) (a1 : Int) (w1 : (Lit.int .u8 a1).wf = true) (a2 : Int) (w2 : (Lit.int .u8 a2).wf = true) (w : World) (r0 : Rep (okOf noRho noHp) noRho w (u8s c0) v0) :
    Calls Try.prog 6 #[v0, .int .u8 a1, .int .u8 a2] w fun e w' => e = .returned (.bool true) ∧ Below w.heap.size w w' := by
  have h1 : 0 ≤ a1 ∧ a1 ≤ 255 := by simp only [Lit.wf, Bool.and_eq_true, decide_eq_true_eq] at w1; exact w1
  have h2 : 0 ≤ a2 ∧ a2 ≤ 255 := by simp only [Lit.wf, Bool.and_eq_true, decide_eq_true_eq] at w2; exact w2
  refine ACall.calls (valueSpoilt_spec c0 b0 a1 h1.1 (by omega) a2 h2.1 (by omega) noHp) w [v0, .int .u8 a1, .int .u8 a2] ⟨rfl, fun j u x hu hx => ?_⟩
  match j with
  | 0 => simp at hu hx; subst hu hx; exact r0
  | 1 => simp at hu hx; subst hu hx; exact .v _
  | 2 => simp at hu hx; subst hu hx; exact .v _
  | j + 3 => simp at hu
set_option linter.unusedSimpArgs false
set_option maxRecDepth 100000 in
theorem lifted (os : Os) (started : os.Started) (H : Type) (enc : TypeId × Value → H) :
    ReturnsInHanded {} Try.checked os 6 .any (Rows.valueSpoiltSpec.pre6 enc Try.prog Try.f6 Rows.valueSpoiltRow.domain false) (Rows.valueSpoiltSpec.post enc Try.prog Try.f6 false true false false) := by
  refine returnsInHanded_of_change (C := Try.checked) own started (by kernel_rfl) Try.func6
    (ChangeSpec.witness6 (enc := enc) (C := Try.checked) false ⟨#[], #[.slice none 0 0, .int .u8 0, .int .u8 0], []⟩ 8 (by kernel_rfl) (by kernel_rfl) (by kernel_rfl) (by kernel_rfl)) ?_
  intro W base args ds gs before hval0 hW hcnd _
  have hval : ∀ (j : Nat) t v, Try.f6.params[j]? = some t → args[j]? = some v → Value.okWide Try.prog W .any base t v := hval0
  have hW' := hW
  have hlt := hW.lt
  obtain ⟨p, q, hA0, hV, rfl, hfz, hnd⟩ := hW
  have hA : DataW.TrodAll enc Try.prog W 0 (fun _ => true) true Try.f6.params.toList args.toList ds p := hA0
  rw [Try.params6] at hA hval
  obtain ⟨v0, vs0, d0, ds0, p0, q0, hargs, rfl, rfl, h0, r0⟩ := trodAll_cons hA
  obtain ⟨v1, vs1, d1, ds1, p1, q1, rfl, rfl, rfl, h1, r1⟩ := trodAll_cons r0
  obtain ⟨v2, vs2, d2, ds2, p2, q2, rfl, rfl, rfl, h2, r2⟩ := trodAll_cons r1
  obtain ⟨rfl, rfl, rfl⟩ := trodAll_nil r2
  obtain rfl : args = #[v0, v1, v2] := by cases args; simp_all
  obtain ⟨rfl, rfl⟩ := trodVars_none hV
  obtain ⟨a1, rfl, rfl, rfl, w1⟩ := open_int Try.underlying5 (hval 1 5 v1 rfl rfl) h1
  obtain ⟨a2, rfl, rfl, rfl, w2⟩ := open_int Try.underlying5 (hval 2 5 v2 rfl rfl) h2
  clear hA0 hval0
  simp only [List.append_nil, List.nil_append] at hW' hlt
  obtain ⟨c0, rep0, b0⟩ : ∃ c, Rep (okOf noRho noHp) noRho W (u8s c) v0 ∧ Bys c := by
    obtain ⟨fuel, hf⟩ := h0
    exact open_u8s Try.underlying35 Try.underlying5 (by kernel_rfl) (okWide_slice Try.underlying35 (hval 0 35 v0 rfl rfl)) hf
  refine (walk c0 v0 b0 a1 w1 a2 w2 W rep0).mono fun e W' ⟨he, hg⟩ => ?_
  subst he
  exact ⟨_, rfl, post_below (pa := p0) (pv := []) hW' (fun _ _ _ => (trodAll_cons_mk (shut_bool Try.underlying4 _) trodAll_mk0)) (fun sp hsp => by
      have t := (trodAll_cons_mk (WideElems.Trod_stays (sp' := sp) (by kernel_rfl) (by kernel_rfl) (of_decide_eq_true (by kernel_rfl)) h0 (fun x hx => hg.same (hlt x (by simp [hx]))) (fun x hx => hsp x (by simp [hx]))) (trodAll_cons_mk (shut_int Try.underlying5 w1) (trodAll_cons_mk (shut_int Try.underlying5 w2) trodAll_mk0)))
      simp only [List.append_nil, List.nil_append, List.append_assoc] at t
      exact t) (fun _ _ => rfl) (by simp)
    hg (ok_one (by kernel_rfl) rfl (okWide_bool_mk Try.underlying4 _))⟩
theorem over : Rows.valueSpoiltRow.holds Try.pinned (OpenSpec.ofChange Rows.valueSpoiltSpec) :=
  OpenClaim.holds_of_wide 6 Try.f6 rfl rfl rfl rfl rfl rfl rfl ⟨rfl, rfl, rfl, rfl, rfl⟩ rfl rfl rfl rfl rfl (by kernel_rfl) Try.func6 (by kernel_rfl)
    (of_decide_eq_true (by kernel_rfl)) (by unfold Func.isWrapper; first | (rw [if_pos (by decide +kernel)]; kernel_rfl) | (rw [if_neg (by decide +kernel)]; exact ⟨rfl, rfl⟩))
    (fun os started H enc _ => lifted os started H enc)
theorem proved : Rows.ValueSpoiltSaid := over
end Go.Proofs.Ytopaddebalfoeaa.valueSpoilt
