/- The statement heliastlaw02.ValueAsks, where what it reads is of bulk at most 1048576: whatever comes in, the call returns true, and all reads as it did. -/
import Derived.Test.YtopaddebalfoeaaRows
import Derived.Test.YtopaddebalfoeaaL6
import Derived.Test.YtopaddebalfoeaaRo
import Derived.Test.YtopaddebalfoeaaRv
import Derived.ChangeMaps5
import Derived.ShutString
import Derived.JoinedCond
import Derived.Carry
namespace Go.Proofs.Ytopaddebalfoeaa.valueAsks
open Go Go.ChangeShapes Go.WideShapes Go.ChangeAt Go.RowKit Go.Eng
set_option linter.unusedVariables false
set_option linter.unusedSimpArgs false
theorem own : ownKnob Try.prog.godebug = none := by kernel_rfl
theorem walk (c0 : V) (v0 : Value) (b0 : bulkV c0 ≤ 1048576) (c1 : V) (v1 : Value) (b1 : bulkV c1 ≤ 1048576) (a2 : ByteArray) (a3 : Int) (w3 : (Lit.int .i64 a3).wf = true) (c4 : List ByteArray) (v4 : Value) (b4 : bulk c4 ≤ 1048576) (c5 : List Int) (v5 : Value) (b5 : Bys c5) (c6 : List Int) (v6 : Value) (b6 : Bys c6) (a7 : Int) (w7 : (Lit.int .u8 a7).wf = true) (w : World) (r0 : Rep (okOf noRho noHp) noRho w (.agg (encV c0)) v0) (r1 : Rep (okOf noRho noHp) noRho w (.agg (encV c1)) v1) (r4 : Rep (okOf noRho noHp) noRho w (strs c4) v4) (r5 : Rep (okOf noRho noHp) noRho w (u8s c5) v5) (r6 : Rep (okOf noRho noHp) noRho w (u8s c6) v6) :
    Calls Try.prog 10 #[v0, v1, .string a2, .int .i64 a3, v4, v5, v6, .int .u8 a7] w fun e w' => e = .returned (.bool true) ∧ Below w.heap.size w w' := by
  have h7 : 0 ≤ a7 ∧ a7 ≤ 255 := by simp only [Lit.wf, Bool.and_eq_true, decide_eq_true_eq] at w7; exact w7
  refine ACall.calls (valueAsks_spec c0 c1 (sz_of 1048576 c0 b0 (by decide)) (sz_of 1048576 c1 b1 (by decide)) a2 a3 c4 (Nat.le_trans b4 (by decide)) c5 b5 c6 b6 a7 h7.1 (by omega) noHp) w [v0, v1, .string a2, .int .i64 a3, v4, v5, v6, .int .u8 a7] ⟨rfl, fun j u x hu hx => ?_⟩
  match j with
  | 0 => simp at hu hx; subst hu hx; exact r0
  | 1 => simp at hu hx; subst hu hx; exact r1
  | 2 => simp at hu hx; subst hu hx; exact .v _
  | 3 => simp at hu hx; subst hu hx; exact .v _
  | 4 => simp at hu hx; subst hu hx; exact r4
  | 5 => simp at hu hx; subst hu hx; exact r5
  | 6 => simp at hu hx; subst hu hx; exact r6
  | 7 => simp at hu hx; subst hu hx; exact .v _
  | j + 8 => simp at hu
set_option maxRecDepth 100000 in
theorem contract (H : Type) (enc : TypeId × Value → H) (W : World) (base : Nat) (args : Array Value) (ds gs : List (DataW H)) (before : List MemPlace)
    (hval : ∀ (j : Nat) t v, Try.f10.params[j]? = some t → args[j]? = some v → Value.okWide Try.prog W .any base t v)
    (hW : DataW.Whole enc Try.prog Try.f10.params.toList Rows.valueAsksSpec.vars false W args.toList ds gs before) (hk : Rows.uptoSmall H (ds ++ gs) = true) :
    Calls Try.prog 10 args W fun e W' => ∃ v, e = .returned v ∧ Rows.valueAsksSpec.post enc Try.prog Try.f10 false true false false W args v W' := by
  have hW' := hW
  have hlt := hW.lt
  obtain ⟨p, q, hA0, hV, rfl, hfz, hnd⟩ := hW
  have hA : DataW.TrodAll enc Try.prog W 0 (fun _ => true) true Try.f10.params.toList args.toList ds p := hA0
  rw [Try.params10] at hA hval
  obtain ⟨v0, vs0, d0, ds0, p0, q0, hargs, rfl, rfl, h0, r0⟩ := trodAll_cons hA
  obtain ⟨v1, vs1, d1, ds1, p1, q1, rfl, rfl, rfl, h1, r1⟩ := trodAll_cons r0
  obtain ⟨v2, vs2, d2, ds2, p2, q2, rfl, rfl, rfl, h2, r2⟩ := trodAll_cons r1
  obtain ⟨v3, vs3, d3, ds3, p3, q3, rfl, rfl, rfl, h3, r3⟩ := trodAll_cons r2
  obtain ⟨v4, vs4, d4, ds4, p4, q4, rfl, rfl, rfl, h4, r4⟩ := trodAll_cons r3
  obtain ⟨v5, vs5, d5, ds5, p5, q5, rfl, rfl, rfl, h5, r5⟩ := trodAll_cons r4
  obtain ⟨v6, vs6, d6, ds6, p6, q6, rfl, rfl, rfl, h6, r6⟩ := trodAll_cons r5
  obtain ⟨v7, vs7, d7, ds7, p7, q7, rfl, rfl, rfl, h7, r7⟩ := trodAll_cons r6
  obtain ⟨rfl, rfl, rfl⟩ := trodAll_nil r7
  obtain rfl : args = #[v0, v1, v2, v3, v4, v5, v6, v7] := by cases args; simp_all
  obtain ⟨rfl, rfl⟩ := trodVars_none hV
  obtain ⟨a2, rfl, rfl, rfl, w2⟩ := Go.ChangeMaps.open_string Try.underlying9 (hval 2 9 v2 rfl rfl) h2
  obtain ⟨a3, rfl, rfl, rfl, w3⟩ := open_int Try.underlying2 (hval 3 2 v3 rfl rfl) h3
  obtain ⟨a7, rfl, rfl, rfl, w7⟩ := open_int Try.underlying5 (hval 7 5 v7 rfl rfl) h7
  clear hA0
  simp only [List.append_nil, List.nil_append] at hW' hlt hk
  have hkb : Rows.uptoBulkAll [d0, d1, .lit (.string a2.data.toList), .lit (.int .i64 a3), d4, d5, d6, .lit (.int .u8 a7)] ≤ 1048576 := of_decide_eq_true hk
  simp only [Rows.uptoBulkAll] at hkb
  obtain ⟨c0, rep0, b0⟩ : ∃ c, Rep (okOf noRho noHp) noRho W (.agg (encV c)) v0 ∧ bulkV c ≤ 1048576 := by
    obtain ⟨fuel, hf⟩ := h0
    obtain ⟨cs, e, _⟩ := okWide_struct Try.underlying27 (hval 0 27 v0 rfl rfl)
    rw [e] at hf ⊢
    obtain ⟨c, g1, g2⟩ := open_val fuel cs.toList _ hf
    have g3 := rep_agg_cells g1
    rw [Array.toArray_toList] at g3
    exact ⟨c, g3, by simp only at g2; omega⟩
  obtain ⟨c1, rep1, b1⟩ : ∃ c, Rep (okOf noRho noHp) noRho W (.agg (encV c)) v1 ∧ bulkV c ≤ 1048576 := by
    obtain ⟨fuel, hf⟩ := h1
    obtain ⟨cs, e, _⟩ := okWide_struct Try.underlying27 (hval 1 27 v1 rfl rfl)
    rw [e] at hf ⊢
    obtain ⟨c, g1, g2⟩ := open_val fuel cs.toList _ hf
    have g3 := rep_agg_cells g1
    rw [Array.toArray_toList] at g3
    exact ⟨c, g3, by simp only at g2; omega⟩
  obtain ⟨c4, rep4, b4⟩ : ∃ c, Rep (okOf noRho noHp) noRho W (strs c) v4 ∧ bulk c ≤ 1048576 := by
    obtain ⟨fuel, hf⟩ := h4
    obtain ⟨x0, x1, x2, e⟩ := okWide_slice Try.underlying24 (hval 4 24 v4 rfl rfl)
    rw [e] at hf ⊢
    obtain ⟨l, g1, g2, _⟩ := open_strsW hf
    exact ⟨l, g1, by simp only at g2; omega⟩
  obtain ⟨c5, rep5, b5⟩ : ∃ c, Rep (okOf noRho noHp) noRho W (u8s c) v5 ∧ Bys c := by
    obtain ⟨fuel, hf⟩ := h5
    exact open_u8s Try.underlying35 Try.underlying5 (by kernel_rfl) (okWide_slice Try.underlying35 (hval 5 35 v5 rfl rfl)) hf
  obtain ⟨c6, rep6, b6⟩ : ∃ c, Rep (okOf noRho noHp) noRho W (u8s c) v6 ∧ Bys c := by
    obtain ⟨fuel, hf⟩ := h6
    exact open_u8s Try.underlying35 Try.underlying5 (by kernel_rfl) (okWide_slice Try.underlying35 (hval 6 35 v6 rfl rfl)) hf
  refine (walk c0 v0 b0 c1 v1 b1 a2 a3 w3 c4 v4 b4 c5 v5 b5 c6 v6 b6 a7 w7 W rep0 rep1 rep4 rep5 rep6).mono fun e W' ⟨he, hg⟩ => ?_
  subst he
  exact ⟨_, rfl, post_below (pa := p0 ++ (p1 ++ (p4 ++ (p5 ++ p6)))) (pv := []) hW' (fun _ _ _ => (trodAll_cons_mk (shut_bool Try.underlying4 _) trodAll_mk0)) (fun sp hsp => by
      have t := (trodAll_cons_mk (WideElems.Trod_stays (sp' := sp) (by kernel_rfl) (by kernel_rfl) (of_decide_eq_true (by kernel_rfl)) h0 (fun x hx => hg.same (hlt x (by simp [hx]))) (fun x hx => hsp x (by simp [hx]))) (trodAll_cons_mk (WideElems.Trod_stays (sp' := sp) (by kernel_rfl) (by kernel_rfl) (of_decide_eq_true (by kernel_rfl)) h1 (fun x hx => hg.same (hlt x (by simp [hx]))) (fun x hx => hsp x (by simp [hx]))) (trodAll_cons_mk (Go.ChangeMaps.shut_string Try.underlying9 w2) (trodAll_cons_mk (shut_int Try.underlying2 w3) (trodAll_cons_mk (WideElems.Trod_stays (sp' := sp) (by kernel_rfl) (by kernel_rfl) (of_decide_eq_true (by kernel_rfl)) h4 (fun x hx => hg.same (hlt x (by simp [hx]))) (fun x hx => hsp x (by simp [hx]))) (trodAll_cons_mk (WideElems.Trod_stays (sp' := sp) (by kernel_rfl) (by kernel_rfl) (of_decide_eq_true (by kernel_rfl)) h5 (fun x hx => hg.same (hlt x (by simp [hx]))) (fun x hx => hsp x (by simp [hx]))) (trodAll_cons_mk (WideElems.Trod_stays (sp' := sp) (by kernel_rfl) (by kernel_rfl) (of_decide_eq_true (by kernel_rfl)) h6 (fun x hx => hg.same (hlt x (by simp [hx]))) (fun x hx => hsp x (by simp [hx]))) (trodAll_cons_mk (shut_int Try.underlying5 w7) trodAll_mk0))))))))
      simp only [List.append_nil, List.nil_append, List.append_assoc] at t
      exact t) (fun _ _ => rfl) (by simp)
    hg (ok_one (by kernel_rfl) rfl (okWide_bool_mk Try.underlying4 _))⟩
set_option maxRecDepth 100000 in
theorem lifted (os : Os) (started : os.Started) (H : Type) (enc : TypeId × Value → H) (F : Stop.Interp) :
    ReturnsInHanded {} Try.checked os 10 .any ((Rows.OpenSpec.upto Rows.valueAsksSpec).pre6 enc Try.prog Try.f10 Rows.valueAsksUptoRow.domain false) (((Rows.OpenSpec.upto Rows.valueAsksSpec).at F).post enc Try.prog Try.f10 false true false false) := by
  refine returnsInHanded_of_cond (C := Try.checked) (s := Rows.OpenSpec.upto Rows.valueAsksSpec) (k := Rows.uptoSmall) rfl own started (by kernel_rfl) Try.func10
    (OpenSpec.witness (enc := enc) (C := Try.checked) (s := Rows.OpenSpec.upto Rows.valueAsksSpec) (k := Rows.uptoSmall) rfl false ⟨#[], #[.agg #[.int .i64 0, .int .i64 0, .string ⟨#[]⟩, .slice none 0 0, .slice none 0 0], .agg #[.int .i64 0, .int .i64 0, .string ⟨#[]⟩, .slice none 0 0, .slice none 0 0], .string ⟨#[]⟩, .int .i64 0, .slice none 0 0, .slice none 0 0, .slice none 0 0, .int .u8 0], []⟩ 8 (by kernel_rfl) (by kernel_rfl) (by kernel_rfl)
      (x := ([.agg [.lit (.int .i64 0), .lit (.int .i64 0), .lit (.string []), .nil, .nil], .agg [.lit (.int .i64 0), .lit (.int .i64 0), .lit (.string []), .nil, .nil], .lit (.string []), .lit (.int .i64 0), .nil, .nil, .nil, .lit (.int .u8 0)], [], [])) (by kernel_rfl) rfl (by kernel_rfl)) ?_
  intro W base args ds gs before hval hW _ hk _
  exact contract H enc W base args ds gs before hval hW hk
theorem over : Rows.valueAsksUptoRow.holds Try.pinned (Rows.OpenSpec.upto Rows.valueAsksSpec) :=
  OpenClaim.holds_of_cond 10 Try.f10 rfl rfl rfl rfl rfl rfl rfl ⟨rfl, rfl, rfl, rfl, rfl⟩ rfl rfl rfl rfl rfl (by kernel_rfl) Try.func10 (by kernel_rfl)
    (of_decide_eq_true (by kernel_rfl)) (by unfold Func.isWrapper; (rw [if_neg (by decide +kernel)]; exact ⟨rfl, rfl⟩))
    (fun os started H enc _ F => lifted os started H enc F)
theorem proved : Rows.ValueAsksUptoSaid := over
end Go.Proofs.Ytopaddebalfoeaa.valueAsks
