/- The statement heliastlaw02.ValueOrder: whatever comes in, the call returns true, and all reads as it did. -/
import Derived.Test.YtopaddebalfoeaaRows
import Derived.Test.YtopaddebalfoeaaL5
import Derived.Test.YtopaddebalfoeaaRo
namespace Go.Proofs.Ytopaddebalfoeaa.valueOrder
open Go Go.ChangeShapes Go.WideShapes Go.ChangeAt Go.RowKit Go.Eng
set_option linter.unusedVariables false
theorem own : ownKnob Try.prog.godebug = none := by kernel_rfl
theorem walk (c0 : List Int) (v0 : Value) (b0 : Bys c0) (c1 : List Int) (v1 : Value) (b1 : Bys c1) (a2 : Int) (w2 : (Lit.int .u8 a2).wf = true) (a3 : Int) (w3 : (Lit.int .u8 a3).wf = true) (a4 : Int) (w4 : (Lit.int .u8 a4).wf = true) (w : World) (r0 : Rep (okOf noRho noHp) noRho w (u8s c0) v0) (r1 : Rep (okOf noRho noHp) noRho w (u8s c1) v1) :
    Calls Try.prog 9 #[v0, v1, .int .u8 a2, .int .u8 a3, .int .u8 a4] w fun e w' => e = .returned (.bool true) ∧ Below w.heap.size w w' := by
  have h2 : 0 ≤ a2 ∧ a2 ≤ 255 := by simp only [Lit.wf, Bool.and_eq_true, decide_eq_true_eq] at w2; exact w2
  have h3 : 0 ≤ a3 ∧ a3 ≤ 255 := by simp only [Lit.wf, Bool.and_eq_true, decide_eq_true_eq] at w3; exact w3
  have h4 : 0 ≤ a4 ∧ a4 ≤ 255 := by simp only [Lit.wf, Bool.and_eq_true, decide_eq_true_eq] at w4; exact w4
  refine ACall.calls (valueOrder_spec c0 b0 c1 b1 a2 h2.1 (by omega) a3 h3.1 (by omega) a4 h4.1 (by omega) noHp) w [v0, v1, .int .u8 a2, .int .u8 a3, .int .u8 a4] ⟨rfl, fun j u x hu hx => ?_⟩
  match j with
  | 0 => simp at hu hx; subst hu hx; exact r0
  | 1 => simp at hu hx; subst hu hx; exact r1
  | 2 => simp at hu hx; subst hu hx; exact .v _
  | 3 => simp at hu hx; subst hu hx; exact .v _
  | 4 => simp at hu hx; subst hu hx; exact .v _
  | j + 5 => simp at hu
set_option linter.unusedSimpArgs false
set_option maxRecDepth 100000 in
theorem lifted (os : Os) (started : os.Started) (H : Type) (enc : TypeId × Value → H) :
    ReturnsInHanded {} Try.checked os 9 .any (Rows.valueOrderSpec.pre6 enc Try.prog Try.f9 Rows.valueOrderRow.domain false) (Rows.valueOrderSpec.post enc Try.prog Try.f9 false true false false) := by
  refine returnsInHanded_of_change (C := Try.checked) own started (by kernel_rfl) Try.func9
    (ChangeSpec.witness6 (enc := enc) (C := Try.checked) false ⟨#[], #[.slice none 0 0, .slice none 0 0, .int .u8 0, .int .u8 0, .int .u8 0], []⟩ 8 (by kernel_rfl) (by kernel_rfl) (by kernel_rfl) (by kernel_rfl)) ?_
  intro W base args ds gs before hval0 hW hcnd _
  have hval : ∀ (j : Nat) t v, Try.f9.params[j]? = some t → args[j]? = some v → Value.okWide Try.prog W .any base t v := hval0
  have hW' := hW
  have hlt := hW.lt
  obtain ⟨p, q, hA0, hV, rfl, hfz, hnd⟩ := hW
  have hA : DataW.TrodAll enc Try.prog W 0 (fun _ => true) true Try.f9.params.toList args.toList ds p := hA0
  rw [Try.params9] at hA hval
  obtain ⟨v0, vs0, d0, ds0, p0, q0, hargs, rfl, rfl, h0, r0⟩ := trodAll_cons hA
  obtain ⟨v1, vs1, d1, ds1, p1, q1, rfl, rfl, rfl, h1, r1⟩ := trodAll_cons r0
  obtain ⟨v2, vs2, d2, ds2, p2, q2, rfl, rfl, rfl, h2, r2⟩ := trodAll_cons r1
  obtain ⟨v3, vs3, d3, ds3, p3, q3, rfl, rfl, rfl, h3, r3⟩ := trodAll_cons r2
  obtain ⟨v4, vs4, d4, ds4, p4, q4, rfl, rfl, rfl, h4, r4⟩ := trodAll_cons r3
  obtain ⟨rfl, rfl, rfl⟩ := trodAll_nil r4
  obtain rfl : args = #[v0, v1, v2, v3, v4] := by cases args; simp_all
  obtain ⟨rfl, rfl⟩ := trodVars_none hV
  obtain ⟨a2, rfl, rfl, rfl, w2⟩ := open_int Try.underlying5 (hval 2 5 v2 rfl rfl) h2
  obtain ⟨a3, rfl, rfl, rfl, w3⟩ := open_int Try.underlying5 (hval 3 5 v3 rfl rfl) h3
  obtain ⟨a4, rfl, rfl, rfl, w4⟩ := open_int Try.underlying5 (hval 4 5 v4 rfl rfl) h4
  clear hA0 hval0
  simp only [List.append_nil, List.nil_append] at hW' hlt
  obtain ⟨c0, rep0, b0⟩ : ∃ c, Rep (okOf noRho noHp) noRho W (u8s c) v0 ∧ Bys c := by
    obtain ⟨fuel, hf⟩ := h0
    exact open_u8s Try.underlying35 Try.underlying5 (by kernel_rfl) (okWide_slice Try.underlying35 (hval 0 35 v0 rfl rfl)) hf
  obtain ⟨c1, rep1, b1⟩ : ∃ c, Rep (okOf noRho noHp) noRho W (u8s c) v1 ∧ Bys c := by
    obtain ⟨fuel, hf⟩ := h1
    exact open_u8s Try.underlying35 Try.underlying5 (by kernel_rfl) (okWide_slice Try.underlying35 (hval 1 35 v1 rfl rfl)) hf
  refine (walk c0 v0 b0 c1 v1 b1 a2 w2 a3 w3 a4 w4 W rep0 rep1).mono fun e W' ⟨he, hg⟩ => ?_
  subst he
  exact ⟨_, rfl, post_below (pa := p0 ++ p1) (pv := []) hW' (fun _ _ _ => (trodAll_cons_mk (shut_bool Try.underlying4 _) trodAll_mk0)) (fun sp hsp => by
      have t := (trodAll_cons_mk (WideElems.Trod_stays (sp' := sp) (by kernel_rfl) (by kernel_rfl) (of_decide_eq_true (by kernel_rfl)) h0 (fun x hx => hg.same (hlt x (by simp [hx]))) (fun x hx => hsp x (by simp [hx]))) (trodAll_cons_mk (WideElems.Trod_stays (sp' := sp) (by kernel_rfl) (by kernel_rfl) (of_decide_eq_true (by kernel_rfl)) h1 (fun x hx => hg.same (hlt x (by simp [hx]))) (fun x hx => hsp x (by simp [hx]))) (trodAll_cons_mk (shut_int Try.underlying5 w2) (trodAll_cons_mk (shut_int Try.underlying5 w3) (trodAll_cons_mk (shut_int Try.underlying5 w4) trodAll_mk0)))))
      simp only [List.append_nil, List.nil_append, List.append_assoc] at t
      exact t) (fun _ _ => rfl) (by simp)
    hg (ok_one (by kernel_rfl) rfl (okWide_bool_mk Try.underlying4 _))⟩
theorem over : Rows.valueOrderRow.holds Try.pinned (OpenSpec.ofChange Rows.valueOrderSpec) :=
  OpenClaim.holds_of_wide 9 Try.f9 rfl rfl rfl rfl rfl rfl rfl ⟨rfl, rfl, rfl, rfl, rfl⟩ rfl rfl rfl rfl rfl (by kernel_rfl) Try.func9 (by kernel_rfl)
    (of_decide_eq_true (by kernel_rfl)) (by unfold Func.isWrapper; first | (rw [if_pos (by decide +kernel)]; kernel_rfl) | (rw [if_neg (by decide +kernel)]; exact ⟨rfl, rfl⟩))
    (fun os started H enc _ => lifted os started H enc)
theorem proved : Rows.ValueOrderSaid := over
end Go.Proofs.Ytopaddebalfoeaa.valueOrder
