/- Texts: what the statement's call computes. -/
import Derived.Test.YtopaddebalfoeaaVc
namespace Go.Proofs.Ytopaddebalfoeaa
open Go Go.RowKit Go.Eng
set_option linter.unusedSimpArgs false
set_option linter.unusedVariables false
theorem eqT_refl (a : ByteArray) : eqT a a = true := by unfold eqT; simp
theorem sameStr (s : ByteArray) : sameV (strV s) (strV s) = true := by
  unfold strV
  rw [sameV, eqT_refl]
  simp [eqBy, samesV]
theorem same_str_spec (s : ByteArray) (H : Hp) : ACall Try.prog 16 [.agg (encV (strV s)), .agg (encV (strV s))] H (IsR H (.v (.bool true))) := by
  have h := same_spec (strV s) (.mk _ _ _ _ _ (by decide) (by decide) (by simp)) (strV s) H
  rw [sameStr] at h; exact h
def okText (s : ByteArray) : Bool := decide (chkR s < 0)
theorem right_str (s : ByteArray) : rightV (strV s) = okText s := by
  have e2 : keyedV (strV s) = true := rfl
  have e1 : numberV (strV s) = true := rfl
  unfold strV at e1 e2 ⊢
  rw [rightV, e1, e2, empty_iff]
  have hr : rightsV [] = true := rfl
  rw [hr]
  unfold okText
  rw [← chk_eq]
  by_cases h : s.size = 0
  · have : chk s = -1 := by unfold chk chkF; rw [if_neg (by omega)]
    simp [h, this]
  · rw [decide_eq_false h]
    by_cases hc : 0 ≤ chk s
    · rw [decide_eq_true hc, decide_eq_false (by omega : ¬ chk s < 0)]; rfl
    · rw [decide_eq_false hc, decide_eq_true (by omega : chk s < 0)]; simp
theorem right_texts (l : List ByteArray) : rightV (textsV l) = l.all okText := by
  have e2 : keyedV (textsV l) = true := rfl
  have e1 : numberV (textsV l) = true := rfl
  unfold textsV at e1 e2 ⊢
  have e3 : ∀ l : List ByteArray, rightsV (l.map strV) = l.all okText := by
    intro l
    induction l with
    | nil => rfl
    | cons a l ih => rw [List.map_cons, rightsV, ih, right_str]; rfl
  rw [rightV, e1, e2, e3]
  simp
theorem encTexts_at (l : List ByteArray) (k : Nat) (h : k < l.length) : (encVs (l.map strV))[((k : Nat) : Int).toNat]? = some (encV (strV l[k])) := by
  have := encVs_get (l.map strV) k (by simpa using h)
  simpa using this
theorem fits_texts (l : List ByteArray) (hl : l.length ≤ 1000000) : Fits (textsV l) := .mk _ _ _ _ _ (by simp) (by simpa using hl) (by
  intro x hx
  obtain ⟨s, _, rfl⟩ := List.mem_map.1 hx
  exact .mk _ _ _ _ _ (by decide) (by decide) (by simp))
theorem right_texts_spec (l : List ByteArray) (hl : l.length ≤ 1000000) (H : Hp) : ACall Try.prog 12 [.agg (encV (textsV l))] H (IsR H (.v (.bool (l.all okText)))) := by
  have h := right_spec (textsV l) (fits_texts l hl) H
  rw [right_texts] at h; exact h
theorem textsLaw_spec (l : List ByteArray) (hl : bulk l ≤ 4000000) (H : Hp) : ACall Try.prog 4 [strs l] H (IsR H (.v (.bool true))) := by
  have hbl := bulk_len l
  have hml : (l.map encS).length = l.length := List.length_map ..
  have hvl : (encVs (l.map strV)).length = l.length := by rw [encVs_len, List.length_map]
  refine UCall (n := 62) (H0 := H) (objs := []) Try.func4 (by kernel_rfl) rfl (by rw [Try.ntmps4]; rfl) .nil <| ?_
  refine Q.rg <| Q.as rfl <| Q.nt <| UW.seq <| Q.rg <| Q.mv rfl <| US.call_pure rfl (by decide) rfl rfl rfl rfl (fun _ => many_spec l hl _) <| Q.nt <| ?_
  refine UW.cond rfl (fun _ => ?_) (fun hb => ?_)
  · refine Q.rg <| US.call_pure rfl (by decide) rfl rfl rfl rfl (fun _ => known_spec _) <| Q.as rfl <| Q.nt <| UW.ret <| UQ.passR <| ?_
    exact retR [] (fun _ => res_tmp rfl rfl) (.refl _) fun hd => ⟨rfl, rfl⟩
  · have hb := of_decide_eq_false hb
    have hl1 : l.length ≤ 1000000 := by omega
    refine UW.skip <| UQ.then <| Q.rg <| Q.mv rfl <| US.call_pure rfl (by decide) rfl rfl rfl rfl (fun _ => texts_spec l (by omega) _) <| US.allocN rfl (by decide) rfl rfl z27 rfl rfl rfl rfl fun p3 => US.st_whole rfl rfl rfl ty27 rfl (k := 0) rfl (by rfl) rfl rfl (by rfl) (by rfl) rfl <| ?_
    refine Q.nt <| Q.rg <| US.fieldAddr rfl (by decide) rfl rfl rfl f27_0 <| Q.lc 0 ty3 rfl rfl rfl <| Q.bi rfl rfl rfl <| Q.mv rfl <| ?_
    (refine US.on rfl rfl (by decide) rfl ?_; refine US.fieldAddr rfl (by decide) rfl rfl rfl f27_4 ?_)
    (refine US.on rfl rfl (by decide) rfl ?_; refine US.ld_cell rfl (by decide) rfl rfl ty25 rfl (k := 0) rfl rfl ?_)
    (refine US.on rfl rfl (by decide) rfl ?_; refine US.len_sl rfl (by decide) rfl rfl sl25 rfl ?_)
    (refine US.on rfl rfl (by decide) rfl ?_; refine US.move rfl (by decide) rfl rfl rfl ?_)
    (refine US.on rfl rfl (by decide) rfl ?_; refine US.len_sl rfl (by decide) rfl rfl sl24 rfl ?_)
    (refine US.on rfl rfl (by decide) rfl ?_; refine US.bin_int rfl (by decide) rfl rfl rfl rfl (r := .bool true) (by simp [iop, hvl]) ?_)
    refine Q.pk rfl rfl <| Q.as rfl <| Q.nt <| Q.rg <| Q.as rfl <| Q.nt <| UW.seq <| Q.rg <| Q.as rfl <| Q.nt <| UW.block <| UW.loop (fun i : Nat => [(6, .v (.int .i64 (i : Int))), (4, .v (.bool true)), (5, .v (.bool ((l.take i).all okText))), (3, .ptr p3 0), (0, strs l)]) (fun _ => [(p3, .box 27 (encV (textsV l)))]) (fun i => i ≤ l.length) (fun i => l.length - i) 0 (Nat.zero_le _) ⟨rfl, rfl, rfl, rfl, rfl, trivial⟩ (.refl _) <| ?_
    intro i hi
    refine UW.seq <| Q.rg <| ?_
    by_cases hlt : (i : Int) < (l.map encS).length
    · have hlt2 : i < l.length := by omega
      refine Q.mv rfl <| Q.mv rfl <| US.len_sl rfl (by decide) rfl rfl sl24 rfl <| US.bin_int rfl (by decide) rfl rfl rfl rfl (r := .bool true) (by (simp [iop, sop]; omega)) <| ?_
      refine Q.mv rfl <| ?_
      (refine US.on rfl rfl (by decide) rfl ?_; refine US.move rfl (by decide) rfl rfl rfl ?_)
      refine Q.pk rfl rfl <| Q.nt <| ?_
      refine UW.cond rfl (fun _ => ?_) (fun h => absurd h (by simp))
      refine UW.skip <| UQ.then <| UW.seq <| UW.block <| UW.seq <| ?_
      refine' UW.draw' (by kernel_rfl) [0, 1, 0, 7, 15, 0, 0, 96, 224, 480, 1023, 2047] [some 32, some 33, some 34, some 35, some 36, some 37, some 38, some 39, some 40, some 41, some 42, some 4] [some (32, _), some (33, _), some (34, _), some (35, _), some (36, _), some (37, _), some (38, _), some (39, _), some (40, _), some (41, _), some (42, _), some (4, _)] [] [1, 4, 8] rfl (by decide) (by decide) (QAll.free (by decide) rfl rfl ?q0 (QAll.held (by decide) rfl rfl ?q1 (QAll.free (by decide) rfl rfl ?q2 (QAll.free (by decide) rfl rfl ?q3 (QAll.held (by decide) rfl rfl ?q4 (QAll.free (by decide) rfl rfl ?q5 (QAll.free (by decide) rfl rfl ?q6 (QAll.free (by decide) rfl rfl ?q7 (QAll.held (by decide) rfl rfl ?q8 (QAll.free (by decide) rfl rfl ?q9 (QAll.free (by decide) rfl rfl ?q10 (QAll.free (by decide) rfl rfl ?q11 QAll.nil)))))))))))) ?k
      case q0 => exact QF.fieldAddr rfl rfl rfl f27_4
      case q1 => exact QS.ld_cell rfl rfl ty25 rfl (k := 0) rfl rfl
      case q2 => exact QF.move rfl rfl rfl
      case q3 => exact QF.indexAddr_sl rfl rfl sl25 rfl rfl (by omega) (encTexts_at l i hlt2) (encV_len _)
      case q4 => exact QS.load_rp_agg rfl rfl rfl ty27 (by rfl)
      case q5 => exact QF.move rfl rfl rfl
      case q6 => exact QF.move rfl rfl rfl
      case q7 => exact QF.indexAddr_sl rfl rfl sl24 rfl rfl (by omega) (strs_get l i hlt2) rfl
      case q8 => exact QS.load_rp_cell rfl rfl rfl ty9
      case q9 => exact QF.call rfl rfl rfl rfl (fun _ => str_spec _ _)
      case q10 => exact QF.call rfl rfl rfl rfl (fun _ => same_str_spec _ _)
      case q11 => exact QF.assign rfl rfl rfl
      refine CH.nil <| ?_
      simp only [app, finL]
      refine UQ.then <| UW.region <| ?_
      have hall : (l.take (i + 1)).all okText = ((l.take i).all okText && okText l[i]) := by
        rw [List.take_add_one, List.getElem?_eq_getElem hlt2, List.all_append]
        simp
      have hsz : l[i].size ≤ 4000000 := by have h1 := bulk_take l i hlt2; have h2 := bulk_take_le l (i + 1); omega
      cases hA : (l.take i).all okText with
      | true =>
        refine Q.mv rfl <| Q.mv rfl <| ?_
        (refine US.on rfl rfl (by decide) rfl ?_; refine US.move rfl (by decide) rfl rfl rfl ?_)
        (refine US.on rfl rfl (by decide) rfl ?_; refine US.move rfl (by decide) rfl rfl rfl ?_)
        (refine US.on rfl rfl (by decide) rfl ?_; refine US.indexAddr_sl rfl (by decide) rfl rfl sl24 rfl rfl (by omega) (strs_get l i hlt2) rfl ?_)
        (refine US.on rfl rfl (by decide) rfl ?_; refine US.load_rp_cell rfl (by decide) rfl rfl rfl ty9 ?_)
        (refine US.on rfl rfl (by decide) rfl ?_; refine US.call_pure rfl (by decide) rfl rfl rfl rfl (fun _ => checkR_spec _ hsz _) ?_)
        (refine US.on rfl rfl (by decide) rfl ?_; refine US.bin_int rfl (by decide) rfl rfl rfl rfl rfl ?_)
        refine Q.pk rfl rfl <| Q.as rfl <| US.nil <| UQ.blockN <| UQ.then <| UW.region <| Q.mv rfl <| US.add rfl (by decide) rfl rfl rfl rfl (r := ((i + 1 : Nat) : Int)) (IntWalk.i64_in _ (by omega)) <| Q.as rfl <| ?_
        exact US.round (a' := i + 1) (by omega) (by omega) ⟨rfl, rfl, (by show some _ = some (AV.v (.bool ((l.take (i + 1)).all okText))); rw [hall, hA]; rfl), rfl, rfl, trivial⟩ (.refl _)
      | false =>
        refine Q.mv rfl <| Q.mv rfl <| Q.of <| Q.of <| Q.of <| Q.of <| Q.of <| Q.of <| Q.pk rfl rfl <| Q.as rfl <| US.nil <| UQ.blockN <| UQ.then <| UW.region <| Q.mv rfl <| US.add rfl (by decide) rfl rfl rfl rfl (r := ((i + 1 : Nat) : Int)) (IntWalk.i64_in _ (by omega)) <| Q.as rfl <| ?_
        exact US.round (a' := i + 1) (by omega) (by omega) ⟨rfl, rfl, (by show some _ = some (AV.v (.bool ((l.take (i + 1)).all okText))); rw [hall, hA]; rfl), rfl, rfl, trivial⟩ (.refl _)
    · have hie : i = l.length := by omega
      refine Q.mv rfl <| Q.mv rfl <| US.len_sl rfl (by decide) rfl rfl sl24 rfl <| US.bin_int rfl (by decide) rfl rfl rfl rfl (r := .bool false) (by (simp [iop, sop]; omega)) <| ?_
      refine Q.mv rfl <| Q.of <| Q.pk rfl rfl <| Q.nt <| UW.cond rfl (fun h => absurd h (by simp)) fun _ => ?_
      refine UW.exit <| UQ.pass <| UQ.pass <| UQ.here <| UQ.then <| Q.rg <| US.call_pure rfl (by decide) rfl rfl rfl rfl (fun _ => known_spec _) <| Q.mv rfl <| ?_
      (refine US.on rfl rfl (by decide) rfl ?_; refine US.move rfl (by decide) rfl rfl rfl ?_)
      refine Q.pk rfl rfl <| Q.mv rfl <| ?_
      (refine US.on rfl rfl (by decide) rfl ?_; refine US.ld_whole rfl (by decide) rfl rfl ty27 rfl (k := 0) rfl (by rfl) ?_)
      (refine US.on rfl rfl (by decide) rfl ?_; refine US.call_pure rfl (by decide) rfl rfl rfl rfl (fun _ => right_texts_spec l hl1 _) ?_)
      (refine US.on rfl rfl (by decide) rfl ?_; refine US.move rfl (by decide) rfl rfl rfl ?_)
      (refine US.on rfl rfl (by decide) rfl ?_; refine US.bool_eql rfl (by decide) rfl rfl Try.underlying4 rfl rfl ?_)
      refine US.eq (u' := .v (.bool true)) (by rw [hie, List.take_length]; simp) <| ?_
      refine Q.pk rfl rfl <| Q.as rfl <| Q.nt <| UW.ret <| ?_
      exact retR [] (fun _ => res_tmp rfl rfl) (by simp) fun hd => ⟨rfl, rfl⟩
end Go.Proofs.Ytopaddebalfoeaa
