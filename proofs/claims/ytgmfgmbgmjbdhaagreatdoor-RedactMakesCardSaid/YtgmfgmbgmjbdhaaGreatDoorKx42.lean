/- The statement heliastlaw07.RedactMakes: whatever comes in, the call returns true, and all reads as it did; the card. -/
import Derived.Test.YtgmfgmbgmjbdhaaGreatDoorKx24
import Derived.Test.YtgmfgmbgmjbdhaaGreatDoorKx41
import Derived.Test.YtgmfgmbgmjbdhaaGreatDoorCards
import Derived.Test.YtgmfgmbgmjbdhaaGreatDoorTie
namespace Go.Proofs.YtgmfgmbgmjbdhaaGreatDoor.redactMakes
open Go Go.ChangeShapes Go.WideShapes Go.ChangeAt Go.RowKit Go.Eng
set_option linter.unusedVariables false
set_option linter.unusedSimpArgs false
theorem walk (a0 : ByteArray) (a1 : ByteArray) (c2 : List Int) (v2 : Value) (b2 : Bys c2) (a3 : Int) (w3 : (Lit.int .u8 a3).wf = true) (w : World) (hL : GlobW w) (r2 : Rep (okOf noRho noHp) noRho w (u8s c2) v2) :
    Calls Tryz.prog 6 #[.string a0, .string a1, v2, .int .u8 a3] w fun e w' => e = .returned (.bool true) ∧ Below w.heap.size w w' := by
  obtain ⟨ρ, H, hh, hno, hG⟩ := hL
  have h3 : 0 ≤ a3 ∧ a3 ≤ 255 := by simp only [Lit.wf, Bool.and_eq_true, decide_eq_true_eq] at w3; exact w3
  refine ACall.callsG (makes_law a0 a1 c2 a3 b2 h3.1 h3.2 H hG) w hh hno [.string a0, .string a1, v2, .int .u8 a3] ⟨rfl, fun j u x hu hx => ?_⟩
  match j with
  | 0 => simp at hu hx; subst hu hx; exact .v _
  | 1 => simp at hu hx; subst hu hx; exact .v _
  | 2 => simp at hu hx; subst hu hx; exact rep_g hno r2
  | 3 => simp at hu hx; subst hu hx; exact .v _
  | j + 4 => simp at hu
set_option maxRecDepth 100000 in
theorem contract (H : Type) (enc : TypeId × Value → H) (W : World) (base : Nat) (args : Array Value) (ds gs : List (DataW H)) (before : List MemPlace)
    (hval : ∀ (j : Nat) t v, Tryz.f6.params[j]? = some t → args[j]? = some v → Value.okWide Tryz.prog W .any base t v)
    (hW : DataW.Whole enc Tryz.prog Tryz.f6.params.toList Rows.redactMakesSpec.vars false W args.toList ds gs before) (hL : laidMetH Tryz.prog Rows.redactMakesRow.laid W) :
    Calls Tryz.prog 6 args W fun e W' => ∃ v, e = .returned v ∧ Rows.redactMakesSpec.post enc Tryz.prog Tryz.f6 false true false false W args v W' := by
  have hg0 : GlobW W := GlobW.of_laid hL
  have hW' := hW
  have hlt := hW.lt
  obtain ⟨p, q, hA0, hV, rfl, hfz, hnd⟩ := hW
  have hA : DataW.TrodAll enc Tryz.prog W 0 (fun _ => true) true Tryz.f6.params.toList args.toList ds p := hA0
  rw [Tryz.params6] at hA hval
  obtain ⟨v0, vs0, d0, ds0, p0, q0, hargs, rfl, rfl, h0, r0⟩ := trodAll_cons hA
  obtain ⟨v1, vs1, d1, ds1, p1, q1, rfl, rfl, rfl, h1, r1⟩ := trodAll_cons r0
  obtain ⟨v2, vs2, d2, ds2, p2, q2, rfl, rfl, rfl, h2, r2⟩ := trodAll_cons r1
  obtain ⟨v3, vs3, d3, ds3, p3, q3, rfl, rfl, rfl, h3, r3⟩ := trodAll_cons r2
  obtain ⟨rfl, rfl, rfl⟩ := trodAll_nil r3
  obtain rfl : args = #[v0, v1, v2, v3] := by cases args; simp_all
  obtain ⟨rfl, rfl⟩ := trodVars_none hV
  obtain ⟨a0, rfl, rfl, rfl, w0⟩ := Go.ChangeMaps.open_string Tryz.underlying9 (hval 0 9 v0 rfl rfl) h0
  obtain ⟨a1, rfl, rfl, rfl, w1⟩ := Go.ChangeMaps.open_string Tryz.underlying9 (hval 1 9 v1 rfl rfl) h1
  obtain ⟨a3, rfl, rfl, rfl, w3⟩ := open_int Tryz.underlying5 (hval 3 5 v3 rfl rfl) h3
  clear hA0
  simp only [List.append_nil, List.nil_append] at hW' hlt
  obtain ⟨c2, rep2, b2⟩ : ∃ c, Rep (okOf noRho noHp) noRho W (u8s c) v2 ∧ Bys c := by
    obtain ⟨fuel, hf⟩ := h2
    exact open_u8s Tryz.underlying22 Tryz.underlying5 (by kernel_rfl) (okWide_slice Tryz.underlying22 (hval 2 22 v2 rfl rfl)) hf
  refine (walk a0 a1 c2 v2 b2 a3 w3 W hg0 rep2).mono fun e W' ⟨he, hg⟩ => ?_
  subst he
  exact ⟨_, rfl, post_below (pa := p2) (pv := []) hW' (fun _ _ _ => (trodAll_cons_mk (shut_bool Tryz.underlying4 _) trodAll_mk0)) (fun sp hsp => by
      have t := (trodAll_cons_mk (Go.ChangeMaps.shut_string Tryz.underlying9 w0) (trodAll_cons_mk (Go.ChangeMaps.shut_string Tryz.underlying9 w1) (trodAll_cons_mk (WideElems.Trod_stays (sp' := sp) (by kernel_rfl) (by kernel_rfl) (of_decide_eq_true (by kernel_rfl)) h2 (fun x hx => hg.same (hlt x (by simp [hx]))) (fun x hx => hsp x (by simp [hx]))) (trodAll_cons_mk (shut_int Tryz.underlying5 w3) trodAll_mk0))))
      simp only [List.append_nil, List.nil_append, List.append_assoc] at t
      exact t) (fun _ _ => rfl) (by simp)
    hg (ok_one (by kernel_rfl) rfl (okWide_bool_mk Tryz.underlying4 _))⟩
set_option maxRecDepth 100000 in
theorem lifted (os : Os) (started : os.Started) (H : Type) (enc : TypeId × Value → H) :
    ReturnsInHanded {} Tryz.checked os 6 .any (fun w args => (Rows.redactMakesSpec.pre enc Tryz.prog Tryz.f6 [] false w args ∧ laidMetH Tryz.prog Rows.redactMakesRow.laid w) ∧ sizedMet enc Tryz.prog Tryz.f6 (OpenSpec.ofChange Rows.redactMakesSpec) false w args) (Rows.redactMakesSpec.post enc Tryz.prog Tryz.f6 false true false false) := by
  refine returnsInHanded_of_change_and (C := Tryz.checked) (X := fun w _ => laidMetH Tryz.prog Rows.redactMakesRow.laid w) (fun _ _ _ hh h => h.of_heap hh) own started (by kernel_rfl) Tryz.func6
    (ChangeSpec.witness_shaped (enc := enc) (C := Tryz.checked) (os := os) (X := fun w _ => laidMetH Tryz.prog Rows.redactMakesRow.laid w) false (World.doorLaid Tryz.prog 48 os) #[.string ⟨#[]⟩, .string ⟨#[]⟩, .slice none 0 0, .int .u8 0] 8 rfl (World.shaped_of_RefB (by kernel_rfl) (by kernel_rfl)) (by kernel_rfl) (by kernel_rfl) (by kernel_rfl) (door_met os _)) ?_
  intro W base args ds gs before hval hW _ _ hL _
  exact contract H enc W base args ds gs before hval hW hL
theorem over : Rows.redactMakesRow.holds Tryz.pinned (OpenSpec.ofChange Rows.redactMakesSpec) :=
  OpenClaim.holds_of_wide 6 Tryz.f6 rfl rfl rfl rfl rfl rfl rfl ⟨rfl, rfl, rfl, rfl, rfl⟩ rfl rfl rfl rfl rfl (by kernel_rfl) Tryz.func6 (by kernel_rfl)
    (of_decide_eq_true (by kernel_rfl)) (by unfold Func.isWrapper; first | (rw [if_pos (by decide +kernel)]; kernel_rfl) | (rw [if_neg (by decide +kernel)]; exact ⟨rfl, rfl⟩))
    (fun os started H enc _ => lifted os started H enc)
theorem proved : Rows.RedactMakesCardSaid :=
  Claim7.holds_tied_plain_at .later [] [.data, .data, .data, .listed, .data] true (true, "628260f38e2c30fd2f1b1d54a6dc8acd9ab38c930c08ff9f199f6d247eb0f735") false
    over (fun _ h => by cases h) (by kernel_rfl) (fun _ h => by cases h) redactMakes_row_tie rfl ⟨rfl, rfl⟩ (by kernel_rfl) rfl
    (fun f fn hf hfn => by
      obtain rfl : f = 6 := Option.some.inj ((show Tryz.prog.funcNamed "heliast/heliastlaw07.RedactMakes" = some 6 by kernel_rfl).symm.trans hf) |>.symm
      obtain rfl : fn = Tryz.f6 := (Option.some.inj (Tryz.func6.symm.trans hfn)).symm
      exact ⟨by kernel_rfl, fun j t ht => by
        rw [Tryz.params6] at ht
        have hm : t ∈ [9, 9, 22, 5] := by simpa using Array.mem_of_getElem? ht
        have hall : ([9, 9, 22, 5].all fun u => !Tryz.prog.wantsStandIn u) = true := by kernel_rfl
        exact (show Tryz.prog.wantsStandIn t = false by simpa using List.all_eq_true.1 hall t hm)⟩)
    (by kernel_rfl)
end Go.Proofs.YtgmfgmbgmjbdhaaGreatDoor.redactMakes
