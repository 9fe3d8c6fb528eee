/- Putting one element in: slices.Insert. · Depth, runes, order, numbers. · Runes, order, numbers, keys. -/
import Derived.Test.YtgmfgmbgmjbdhaaGreatDoorKx14
import Derived.Test.YtgmfgmbgmjbdhaaGreatDoorKx11
section
namespace Go.Proofs.YtgmfgmbgmjbdhaaGreatDoor
open Go Go.RowKit Go.Eng
set_option maxHeartbeats 4000000
set_option linter.unusedSimpArgs false
set_option linter.unusedVariables false
set_option maxRecDepth 100000
/-- With x at the place i. -/
def insAt {α : Type} (l : List α) (i : Nat) (x : α) : List α := l.take i ++ x :: l.drop i
theorem dist_ne {H : Hp} {i j : Nat} {a b : Ob} {r : List (Nat × Ob)} (h : Dist H ((i, a) :: (j, b) :: r)) : i ≠ j := by
  cases h with
  | cons h1 _ => exact Ne.symm ((extH_none h1).2 (j, b) (by simp))
/-- A new row with one element more. -/
def InsR (e sz : Nat) (rows : List (List AV)) (i : Nat) (x : List AV) (u : AV) (news : List (Nat × Ob)) : Prop := ∃ id', u = .own id' 0 (rows.length + 1) sz ∧ news = [(id', .row e sz (insAt rows i x))]
theorem insAt_len {α : Type} (l : List α) (i : Nat) (x : α) (hi : i ≤ l.length) : (insAt l i x).length = l.length + 1 := by unfold insAt; simp; omega
theorem ins_end {α : Type} (l : List α) (i : Nat) (x : α) (h : i = l.length) : l.take l.length ++ [x] = insAt l i x := by subst h; simp [insAt]
theorem ins_one {α : Type} (l : List α) (i : Nat) (x z : α) (h : i ≤ l.length) : (l.take i ++ List.replicate (l.length + 1 - i) z).take (0 + i) ++ [x] ++ (l.take i ++ List.replicate (l.length + 1 - i) z).drop (0 + i + 1) = l.take i ++ x :: List.replicate (l.length - i) z := by
  have e1 : (l.take i).length = i := by rw [List.length_take]; omega
  rw [Nat.zero_add, List.take_left' e1, List.drop_append, e1, List.drop_of_length_le (by omega), List.nil_append, List.drop_replicate]
  have : l.length + 1 - i - (i + 1 - i) = l.length - i := by omega
  rw [this]; simp
theorem ins_two {α : Type} (l : List α) (i : Nat) (x z : α) (h : i ≤ l.length) : (l.take i ++ x :: List.replicate (l.length - i) z).take (0 + (i + 1)) ++ (l.drop (0 + i)).take (l.length - i) ++ (l.take i ++ x :: List.replicate (l.length - i) z).drop (0 + (i + 1) + (l.length - i)) = insAt l i x := by
  have e1 : (l.take i).length = i := by rw [List.length_take]; omega
  have e2 : l.take i ++ x :: List.replicate (l.length - i) z = (l.take i ++ [x]) ++ List.replicate (l.length - i) z := by simp
  have e3 : (l.take i ++ x :: List.replicate (l.length - i) z).drop (0 + (i + 1) + (l.length - i)) = [] := List.drop_eq_nil_of_le (by (simp; omega))
  have e4 : (l.drop (0 + i)).take (l.length - i) = l.drop i := by rw [Nat.zero_add]; exact List.take_of_length_le (by rw [List.length_drop]; omega)
  rw [e3, e4, e2, Nat.zero_add, List.take_left' (by (simp; omega))]
  simp [insAt]
theorem ins_three {α : Type} (l : List α) (i : Nat) (h : i < l.length) : l.take (0 + (i + 1)) ++ (l.drop (0 + i)).take (l.length - i) ++ l.drop (0 + (i + 1) + (l.length - i)) = l.take (i + 1) ++ l.drop i := by
  have e3 : l.drop (0 + (i + 1) + (l.length - i)) = [] := List.drop_eq_nil_of_le (by omega)
  have e4 : (l.drop (0 + i)).take (l.length - i) = l.drop i := by rw [Nat.zero_add]; exact List.take_of_length_le (by rw [List.length_drop]; omega)
  rw [e3, e4, Nat.zero_add, List.append_nil]
theorem ins_four {α : Type} (l : List α) (i : Nat) (x : α) (h : i < l.length) : (l.take (i + 1) ++ l.drop i).take (0 + i) ++ [x] ++ (l.take (i + 1) ++ l.drop i).drop (0 + i + 1) = insAt l i x := by
  have e1 : (l.take (i + 1)).length = i + 1 := by rw [List.length_take]; omega
  rw [Nat.zero_add, List.take_append_of_le_length (by omega), List.take_take, Nat.min_eq_left (by omega), List.drop_left' e1]
  simp [insAt]
theorem insertS_spec (rows : List (List AV)) (hr : ∀ cs ∈ rows, cs.length = 1) (hb : rows.length ≤ 1000000) (x : List AV) (hx1 : x.length = 1) (i : Nat) (hi : i ≤ rows.length) (id id2 : Nat) (H : Hp) (hD : Dist H [(id, .row 9 1 rows), (id2, .row 9 1 [x])]) :
    ACall Tryz.prog 66 [.own id 0 rows.length 1, .v (.int .i64 (i : Int)), .own id2 0 1 1] (extH H [(id, .row 9 1 rows), (id2, .row 9 1 [x])])
      (fun u H' => ∃ news, Dist H news ∧ H' = extH H news ∧ InsR 9 1 rows i x u news) := by
  have hne : id ≠ id2 := dist_ne hD
  refine UCall (n := 95) (H0 := H) (objs := [(id, .row 9 1 rows), (id2, .row 9 1 [x])]) Tryz.func66 (by kernel_rfl) rfl (by rw [Tryz.ntmps66]; rfl) hD <| ?_
  focus
    refine Q.rg <| Q.as rfl <| Q.nt <| Q.rg <| Q.mv rfl <| Q.mv rfl <| S.qu (Z.slo sl23 rfl (.lo rfl) (by omega) (by omega)) <| Q.nt <| Q.rg <| Q.mv rfl <| S.qu (Z.lno sl23 rfl) <| Q.as rfl <| Q.nt <| S.sq <| Q.rg <| Q.mv rfl <| Q.bi rfl rfl rfl <| Q.nt <| S.cF rfl (beq_f (by omega)) <| UW.skip <| UQ.then <| Q.rg <| Q.mv rfl <| S.qu (Z.lno sl23 rfl) <| Q.as rfl <| Q.nt <| S.sq <| Q.rg <| Q.mv rfl <| Q.mv rfl <| Q.bi rfl rfl rfl <| Q.nt <| ?_
    refine S.cE rfl (fun hc0 => ?_) (fun hc0 => ?_)
    refine Q.rg <| Q.mv rfl <| Q.mv rfl <| S.dd <| D.ap 0 row23 rfl rfl (by omega) rfl (.own (k := 1) (rs := [x]) rfl (by simp) rfl) (by (simp; omega)) (ins_end rows i x (by omega)) fun p25 => ?_
    refine Q.as rfl <| Q.nt <| UW.ret <| UQ.passR <| ?_
    rotate_left
    refine UW.skip <| UQ.then <| S.sq <| Q.rg <| Q.mv rfl <| Q.mv rfl <| S.qu (Z.add rfl rfl (IntWalk.i64_in _ (by omega))) <| Q.mv rfl <| S.dd <| D.cap 0 sl23 rfl rfl (by omega) fun c hc1 hc2 hc3 => Q.bi rfl rfl rfl <| Q.nt <| ?_
    refine S.cD rfl (fun hc1 => ?_) (fun hc1 => ?_)
    refine Q.rg <| Q.mv rfl <| Q.mv rfl <| S.qu (Z.slo sl23 rfl (.hi rfl) (by omega) (by omega)) <| Q.mv rfl <| Q.mv rfl <| S.qu (Z.add rfl rfl (IntWalk.i64_in _ (by omega))) <| Q.mv rfl <| S.qu (Z.sub (r := ((rows.length + 1 - i : Nat) : Int)) rfl rfl (Eq.trans (IntWalk.i64_in _ (by omega)) (by omega))) <| S.dd <| D.apz 0 row23 Tryz.underlying3 rfl rfl rfl (by omega) (by omega) (by omega) (by omega) z9 rfl rfl fun p40 hp40 => Q.as rfl <| Q.nt <| Q.rg <| Q.mv rfl <| Q.mv rfl <| S.qu (Z.slo sl23 rfl (.lo rfl) (by omega) (by omega)) <| Q.mv rfl <| S.dd <| D.cpr 0 sl23 rfl rfl rfl (by omega) (.of (.own (k := 2) (rs := [x]) rfl (by simp) rfl) (m := 1) (by simp) rfl rfl) (m := 1) (by (simp [Nat.min_def]; omega)) rfl (by (simp; omega)) (ins_one rows i x _ hi) <| ?_
    refine Q.nt <| S.sq <| ?_
    refine' UW.draw' (by kernel_rfl) [0, 0, 0, 6, 15, 0, 0, 96, 255] [some 46, some 47, some 48, some 49, some 50, some 51, some 52, some 53, none] [some (46, _), some (47, _), some (48, _), some (49, _), some (50, _), some (51, _), some (52, _), some (53, _), none] [8] [] rfl (by decide) (by decide) (QAll.free (by decide) rfl rfl ?q2_0 (QAll.free (by decide) rfl rfl ?q2_1 (QAll.free (by decide) rfl rfl ?q2_2 (QAll.free (by decide) rfl rfl ?q2_3 (QAll.free (by decide) rfl rfl ?q2_4 (QAll.free (by decide) rfl rfl ?q2_5 (QAll.free (by decide) rfl rfl ?q2_6 (QAll.free (by decide) rfl rfl ?q2_7 (QAll.skip QAll.nil))))))))) ?q2_k
    case q2_0 => (intro _; exact Z.mv rfl)
    case q2_1 => (intro _; exact Z.mv rfl)
    case q2_2 => (intro _; exact Z.mv rfl)
    case q2_3 => (intro _; exact Z.add (r := ((i + 1 : Nat) : Int)) rfl rfl (Eq.trans (IntWalk.i64_in _ (by omega)) (by omega)))
    case q2_4 => (intro _; exact Z.slo sl23 rfl (.lo rfl) (by omega) (by omega))
    case q2_5 => (intro _; exact Z.mv rfl)
    case q2_6 => (intro _; exact Z.mv rfl)
    case q2_7 => (intro _; exact Z.slo sl23 rfl (.lo rfl) (by omega) (by omega))
    refine CH.cons rfl rfl (by decide) <| D.cpr 0 sl23 rfl rfl rfl (by omega) (.rowc (k := 1) (m := rows.length - i) rfl (by omega) (by omega) rfl) (m := rows.length - i) (by (simp [Nat.min_def]; omega)) (by (simp; done)) (by (simp; omega)) (ins_two rows i x _ hi) <| ?_
    refine CH.nil <| ?_
    simp only [app, finL]
    refine UQ.then <| Q.rg <| Q.mv rfl <| Q.as rfl <| Q.nt <| UW.ret <| UQ.passR <| ?_
    rotate_left
    refine UW.skip <| UQ.then <| Q.rg <| Q.mv rfl <| Q.mv rfl <| Q.mv rfl <| S.qu (Z.add (r := ((rows.length + 1 : Nat) : Int)) rfl rfl (Eq.trans (IntWalk.i64_in _ (by omega)) (by omega))) <| S.dd <| D.slr 0 sl23 rfl rfl (by omega) (.hi rfl) (by simp) (by omega) (by omega) <| ?_
    refine Q.as rfl <| Q.nt <| S.sq <| Q.rg <| Q.mv rfl <| Q.mv rfl <| Q.mv rfl <| Q.mv rfl <| S.qu (Z.add (r := ((i + 1 : Nat) : Int)) rfl rfl (Eq.trans (IntWalk.i64_in _ (by omega)) (by omega))) <| S.qu (Z.slo sl23 rfl (.lo rfl) (by omega) (by omega)) <| ?_
    refine S.dd (D.ovl (tr := 4) 1 0 Tryz.func100 sl23 rfl rfl rfl rfl rfl (Ne.symm hne) (by omega) (by omega) ?_ (by kernel_rfl))
    refine S.qu (Z.not rfl) <| Q.nt <| S.cT rfl rfl <| S.sq <| ?_
    refine' UW.draw' (by kernel_rfl) [0, 0, 0, 6, 15, 0, 0, 96, 255] [some 69, some 70, some 71, some 72, some 73, some 74, some 75, some 76, none] [some (69, _), some (70, _), some (71, _), some (72, _), some (73, _), some (74, _), some (75, _), some (76, _), none] [8] [] rfl (by decide) (by decide) (QAll.free (by decide) rfl rfl ?q3_0 (QAll.free (by decide) rfl rfl ?q3_1 (QAll.free (by decide) rfl rfl ?q3_2 (QAll.free (by decide) rfl rfl ?q3_3 (QAll.free (by decide) rfl rfl ?q3_4 (QAll.free (by decide) rfl rfl ?q3_5 (QAll.free (by decide) rfl rfl ?q3_6 (QAll.free (by decide) rfl rfl ?q3_7 (QAll.skip QAll.nil))))))))) ?q3_k
    case q3_0 => (intro _; exact Z.mv rfl)
    case q3_1 => (intro _; exact Z.mv rfl)
    case q3_2 => (intro _; exact Z.mv rfl)
    case q3_3 => (intro _; exact Z.add (r := ((i + 1 : Nat) : Int)) rfl rfl (Eq.trans (IntWalk.i64_in _ (by omega)) (by omega)))
    case q3_4 => (intro _; exact Z.slo sl23 rfl (.lo rfl) (by omega) (by omega))
    case q3_5 => (intro _; exact Z.mv rfl)
    case q3_6 => (intro _; exact Z.mv rfl)
    case q3_7 => (intro _; exact Z.slo sl23 rfl (.lo rfl) (by omega) (by omega))
    refine CH.cons rfl rfl (by decide) <| D.cpc 0 sl23 rfl rfl rfl (by omega) (.rowc (k := 0) (m := rows.length - i) rfl (by omega) (by omega) rfl) (m := rows.length - i) (by (simp [Nat.min_def]; omega)) (by (simp; done)) (by omega) (by omega) (ins_three rows i (by omega)) <| ?_
    refine CH.nil <| ?_
    simp only [app, finL]
    refine UQ.then <| Q.rg <| Q.mv rfl <| Q.mv rfl <| S.qu (Z.slo sl23 rfl (.lo rfl) (by omega) (by omega)) <| Q.mv rfl <| S.dd <| D.cpc 0 sl23 rfl rfl rfl (by omega) (.of (.own (k := 1) (rs := [x]) rfl (by simp) rfl) (m := 1) (by simp) rfl rfl) (m := 1) (by (simp [Nat.min_def]; omega)) rfl (by (simp; omega)) (by omega) (ins_four rows i x (by omega)) <| ?_
    refine Q.nt <| Q.rg <| Q.mv rfl <| Q.as rfl <| ?_
    refine US.retag 6 0 rfl rfl (by omega) (fun id' => ?_)
    refine Q.nt <| UW.ret <| UQ.passR <| ?_
    rotate_left
  all_goals exact retR [_] (fun _ => res_tmp rfl rfl) (.cons_cons _ (List.nil_sublist _)) fun hd => ⟨_, hd, rfl, _, by first | rfl | (congr 1; omega), rfl⟩
theorem insertV_spec (rows : List (List AV)) (hr : ∀ cs ∈ rows, cs.length = 5) (hb : rows.length ≤ 1000000) (x : List AV) (hx1 : x.length = 5) (i : Nat) (hi : i ≤ rows.length) (id id2 : Nat) (H : Hp) (hD : Dist H [(id, .row 26 5 rows), (id2, .row 26 5 [x])]) :
    ACall Tryz.prog 67 [.own id 0 rows.length 5, .v (.int .i64 (i : Int)), .own id2 0 1 5] (extH H [(id, .row 26 5 rows), (id2, .row 26 5 [x])])
      (fun u H' => ∃ news, Dist H news ∧ H' = extH H news ∧ InsR 26 5 rows i x u news) := by
  have hne : id ≠ id2 := dist_ne hD
  refine UCall (n := 95) (H0 := H) (objs := [(id, .row 26 5 rows), (id2, .row 26 5 [x])]) Tryz.func67 (by kernel_rfl) rfl (by rw [Tryz.ntmps67]; rfl) hD <| ?_
  focus
    refine Q.rg <| Q.as rfl <| Q.nt <| Q.rg <| Q.mv rfl <| Q.mv rfl <| S.qu (Z.slo sl24 rfl (.lo rfl) (by omega) (by omega)) <| Q.nt <| Q.rg <| Q.mv rfl <| S.qu (Z.lno sl24 rfl) <| Q.as rfl <| Q.nt <| S.sq <| Q.rg <| Q.mv rfl <| Q.bi rfl rfl rfl <| Q.nt <| S.cF rfl (beq_f (by omega)) <| UW.skip <| UQ.then <| Q.rg <| Q.mv rfl <| S.qu (Z.lno sl24 rfl) <| Q.as rfl <| Q.nt <| S.sq <| Q.rg <| Q.mv rfl <| Q.mv rfl <| Q.bi rfl rfl rfl <| Q.nt <| ?_
    refine S.cE rfl (fun hc0 => ?_) (fun hc0 => ?_)
    refine Q.rg <| Q.mv rfl <| Q.mv rfl <| S.dd <| D.ap 0 row24 rfl rfl (by omega) rfl (.own (k := 1) (rs := [x]) rfl (by simp) rfl) (by (simp; omega)) (ins_end rows i x (by omega)) fun p25 => ?_
    refine Q.as rfl <| Q.nt <| UW.ret <| UQ.passR <| ?_
    rotate_left
    refine UW.skip <| UQ.then <| S.sq <| Q.rg <| Q.mv rfl <| Q.mv rfl <| S.qu (Z.add rfl rfl (IntWalk.i64_in _ (by omega))) <| Q.mv rfl <| S.dd <| D.cap 0 sl24 rfl rfl (by omega) fun c hc1 hc2 hc3 => Q.bi rfl rfl rfl <| Q.nt <| ?_
    refine S.cD rfl (fun hc1 => ?_) (fun hc1 => ?_)
    refine Q.rg <| Q.mv rfl <| Q.mv rfl <| S.qu (Z.slo sl24 rfl (.hi rfl) (by omega) (by omega)) <| Q.mv rfl <| Q.mv rfl <| S.qu (Z.add rfl rfl (IntWalk.i64_in _ (by omega))) <| Q.mv rfl <| S.qu (Z.sub (r := ((rows.length + 1 - i : Nat) : Int)) rfl rfl (Eq.trans (IntWalk.i64_in _ (by omega)) (by omega))) <| S.dd <| D.apz 0 row24 Tryz.underlying3 rfl rfl rfl (by omega) (by omega) (by omega) (by omega) z26 rfl rfl fun p40 hp40 => Q.as rfl <| Q.nt <| Q.rg <| Q.mv rfl <| Q.mv rfl <| S.qu (Z.slo sl24 rfl (.lo rfl) (by omega) (by omega)) <| Q.mv rfl <| S.dd <| D.cpr 0 sl24 rfl rfl rfl (by omega) (.of (.own (k := 2) (rs := [x]) rfl (by simp) rfl) (m := 1) (by simp) rfl rfl) (m := 1) (by (simp [Nat.min_def]; omega)) rfl (by (simp; omega)) (ins_one rows i x _ hi) <| ?_
    refine Q.nt <| S.sq <| ?_
    refine' UW.draw' (by kernel_rfl) [0, 0, 0, 6, 15, 0, 0, 96, 255] [some 46, some 47, some 48, some 49, some 50, some 51, some 52, some 53, none] [some (46, _), some (47, _), some (48, _), some (49, _), some (50, _), some (51, _), some (52, _), some (53, _), none] [8] [] rfl (by decide) (by decide) (QAll.free (by decide) rfl rfl ?q2_0 (QAll.free (by decide) rfl rfl ?q2_1 (QAll.free (by decide) rfl rfl ?q2_2 (QAll.free (by decide) rfl rfl ?q2_3 (QAll.free (by decide) rfl rfl ?q2_4 (QAll.free (by decide) rfl rfl ?q2_5 (QAll.free (by decide) rfl rfl ?q2_6 (QAll.free (by decide) rfl rfl ?q2_7 (QAll.skip QAll.nil))))))))) ?q2_k
    case q2_0 => (intro _; exact Z.mv rfl)
    case q2_1 => (intro _; exact Z.mv rfl)
    case q2_2 => (intro _; exact Z.mv rfl)
    case q2_3 => (intro _; exact Z.add (r := ((i + 1 : Nat) : Int)) rfl rfl (Eq.trans (IntWalk.i64_in _ (by omega)) (by omega)))
    case q2_4 => (intro _; exact Z.slo sl24 rfl (.lo rfl) (by omega) (by omega))
    case q2_5 => (intro _; exact Z.mv rfl)
    case q2_6 => (intro _; exact Z.mv rfl)
    case q2_7 => (intro _; exact Z.slo sl24 rfl (.lo rfl) (by omega) (by omega))
    refine CH.cons rfl rfl (by decide) <| D.cpr 0 sl24 rfl rfl rfl (by omega) (.rowc (k := 1) (m := rows.length - i) rfl (by omega) (by omega) rfl) (m := rows.length - i) (by (simp [Nat.min_def]; omega)) (by (simp; done)) (by (simp; omega)) (ins_two rows i x _ hi) <| ?_
    refine CH.nil <| ?_
    simp only [app, finL]
    refine UQ.then <| Q.rg <| Q.mv rfl <| Q.as rfl <| Q.nt <| UW.ret <| UQ.passR <| ?_
    rotate_left
    refine UW.skip <| UQ.then <| Q.rg <| Q.mv rfl <| Q.mv rfl <| Q.mv rfl <| S.qu (Z.add (r := ((rows.length + 1 : Nat) : Int)) rfl rfl (Eq.trans (IntWalk.i64_in _ (by omega)) (by omega))) <| S.dd <| D.slr 0 sl24 rfl rfl (by omega) (.hi rfl) (by simp) (by omega) (by omega) <| ?_
    refine Q.as rfl <| Q.nt <| S.sq <| Q.rg <| Q.mv rfl <| Q.mv rfl <| Q.mv rfl <| Q.mv rfl <| S.qu (Z.add (r := ((i + 1 : Nat) : Int)) rfl rfl (Eq.trans (IntWalk.i64_in _ (by omega)) (by omega))) <| S.qu (Z.slo sl24 rfl (.lo rfl) (by omega) (by omega)) <| ?_
    refine S.dd (D.ovl (tr := 4) 1 0 Tryz.func102 sl24 rfl rfl rfl rfl rfl (Ne.symm hne) (by omega) (by omega) ?_ (by kernel_rfl))
    refine S.qu (Z.not rfl) <| Q.nt <| S.cT rfl rfl <| S.sq <| ?_
    refine' UW.draw' (by kernel_rfl) [0, 0, 0, 6, 15, 0, 0, 96, 255] [some 69, some 70, some 71, some 72, some 73, some 74, some 75, some 76, none] [some (69, _), some (70, _), some (71, _), some (72, _), some (73, _), some (74, _), some (75, _), some (76, _), none] [8] [] rfl (by decide) (by decide) (QAll.free (by decide) rfl rfl ?q3_0 (QAll.free (by decide) rfl rfl ?q3_1 (QAll.free (by decide) rfl rfl ?q3_2 (QAll.free (by decide) rfl rfl ?q3_3 (QAll.free (by decide) rfl rfl ?q3_4 (QAll.free (by decide) rfl rfl ?q3_5 (QAll.free (by decide) rfl rfl ?q3_6 (QAll.free (by decide) rfl rfl ?q3_7 (QAll.skip QAll.nil))))))))) ?q3_k
    case q3_0 => (intro _; exact Z.mv rfl)
    case q3_1 => (intro _; exact Z.mv rfl)
    case q3_2 => (intro _; exact Z.mv rfl)
    case q3_3 => (intro _; exact Z.add (r := ((i + 1 : Nat) : Int)) rfl rfl (Eq.trans (IntWalk.i64_in _ (by omega)) (by omega)))
    case q3_4 => (intro _; exact Z.slo sl24 rfl (.lo rfl) (by omega) (by omega))
    case q3_5 => (intro _; exact Z.mv rfl)
    case q3_6 => (intro _; exact Z.mv rfl)
    case q3_7 => (intro _; exact Z.slo sl24 rfl (.lo rfl) (by omega) (by omega))
    refine CH.cons rfl rfl (by decide) <| D.cpc 0 sl24 rfl rfl rfl (by omega) (.rowc (k := 0) (m := rows.length - i) rfl (by omega) (by omega) rfl) (m := rows.length - i) (by (simp [Nat.min_def]; omega)) (by (simp; done)) (by omega) (by omega) (ins_three rows i (by omega)) <| ?_
    refine CH.nil <| ?_
    simp only [app, finL]
    refine UQ.then <| Q.rg <| Q.mv rfl <| Q.mv rfl <| S.qu (Z.slo sl24 rfl (.lo rfl) (by omega) (by omega)) <| Q.mv rfl <| S.dd <| D.cpc 0 sl24 rfl rfl rfl (by omega) (.of (.own (k := 1) (rs := [x]) rfl (by simp) rfl) (m := 1) (by simp) rfl rfl) (m := 1) (by (simp [Nat.min_def]; omega)) rfl (by (simp; omega)) (by omega) (ins_four rows i x (by omega)) <| ?_
    refine Q.nt <| Q.rg <| Q.mv rfl <| Q.as rfl <| ?_
    refine US.retag 6 0 rfl rfl (by omega) (fun id' => ?_)
    refine Q.nt <| UW.ret <| UQ.passR <| ?_
    rotate_left
  all_goals exact retR [_] (fun _ => res_tmp rfl rfl) (.cons_cons _ (List.nil_sublist _)) fun hd => ⟨_, hd, rfl, _, by first | rfl | (congr 1; omega), rfl⟩
end Go.Proofs.YtgmfgmbgmjbdhaaGreatDoor
end
section
namespace Go.Proofs.YtgmfgmbgmjbdhaaGreatDoor
open Go Go.RowKit Go.Eng
set_option maxRecDepth 100000
set_option linter.unusedSimpArgs false
set_option linter.unusedVariables false
/-- The greatest of a list that has a first. -/
def maxL : List Int → Int
  | [] => 0
  | a :: r => r.foldl (fun m c => if c > m then c else m) a
mutual
/-- How deep a value is. -/
def deepV : V → Int
  | .mk k _ _ _ vs => if k = 4 ∨ k = 5 then 1 + maxL (deepsV vs ++ [0]) else 0
def deepsV : List V → List Int
  | [] => []
  | x :: r => deepV x :: deepsV r
end
theorem deepsV_eq : ∀ l : List V, deepsV l = l.map deepV
  | [] => rfl
  | x :: r => by rw [deepsV, deepsV_eq r]; rfl
theorem foldmax_le {a : Int} : ∀ {r : List Int} {b : Int}, b ≤ a → (∀ c ∈ r, c ≤ a) → r.foldl (fun m c => if c > m then c else m) b ≤ a
  | [], _, h, _ => h
  | c :: r, b, h, h2 => by
    simp only [List.foldl_cons]
    refine foldmax_le ?_ (fun c' hc' => h2 c' (by simp [hc']))
    split
    · exact h2 c (by simp)
    · exact h
theorem le_foldmax : ∀ {r : List Int} {b : Int}, b ≤ r.foldl (fun m c => if c > m then c else m) b ∧ ∀ c ∈ r, c ≤ r.foldl (fun m c => if c > m then c else m) b
  | [], _ => ⟨Int.le_refl _, by simp⟩
  | c :: r, b => by
    simp only [List.foldl_cons]
    have ih := le_foldmax (r := r) (b := if c > b then c else b)
    refine ⟨?_, fun c' hc' => ?_⟩
    · refine Int.le_trans ?_ ih.1
      split <;> omega
    · rcases List.mem_cons.1 hc' with rfl | h
      · refine Int.le_trans ?_ ih.1
        split <;> omega
      · exact ih.2 c' h
theorem le_maxL {l : List Int} {c : Int} (h : c ∈ l) : c ≤ maxL l := by
  cases l with
  | nil => simp at h
  | cons a r =>
    rcases List.mem_cons.1 h with rfl | h
    · exact le_foldmax.1
    · exact le_foldmax.2 c h
theorem deepV_nonneg (x : V) : 0 ≤ deepV x := by
  obtain ⟨k, n, t, ks, vs⟩ := x
  unfold deepV
  split
  · have := le_maxL (l := deepsV vs ++ [0]) (c := 0) (by simp)
    omega
  · omega
end Go.Proofs.YtgmfgmbgmjbdhaaGreatDoor
end
section
namespace Go.Proofs.YtgmfgmbgmjbdhaaGreatDoor
open Go Go.RowKit Go.Eng
set_option maxRecDepth 100000
set_option linter.unusedSimpArgs false
set_option linter.unusedVariables false
/-- Does s begin with p? -/
def pre (s p : ByteArray) : Bool := decide (p.size ≤ s.size) && (s.extract 0 p.size).toList == p.toList
def cmpB (a b : ByteArray) : Int := Lib.compareBytes a.data.toList b.data.toList
theorem compareString_spec (s p : ByteArray) (H : Hp) :
    ACall Tryz.prog 128 [.v (.string s), .v (.string p)] H (IsR H (.v (.int .i64 (cmpB s p)))) := by
  refine UCall (n := 8) (H0 := H) (objs := []) Tryz.func128 (by kernel_rfl) rfl (by rw [Tryz.ntmps128]; rfl) .nil <| ?_
  refine Q.rg <| Q.as rfl <| Q.nt <| Q.rg <| Q.mv rfl <| Q.mv rfl <| US.compare rfl (by decide) rfl rfl rfl Tryz.func149 (by kernel_rfl) (by kernel_rfl) (by kernel_rfl) (by kernel_rfl) rfl rfl <| Q.as rfl <| Q.nt <| UW.ret <| ?_
  exact retR [] (fun _ => res_tmp rfl rfl) (by simp) fun hd => ⟨rfl, rfl⟩
theorem compare_spec (s p : ByteArray) (H : Hp) :
    ACall Tryz.prog 99 [.v (.string s), .v (.string p)] H (IsR H (.v (.int .i64 (cmpB s p)))) := by
  refine UCall (n := 8) (H0 := H) (objs := []) Tryz.func99 (by kernel_rfl) rfl (by rw [Tryz.ntmps99]; rfl) .nil <| ?_
  refine Q.rg <| Q.as rfl <| Q.nt <| Q.rg <| Q.mv rfl <| Q.mv rfl <| US.call_pure rfl (by decide) rfl rfl rfl rfl (fun _ => compareString_spec s p _) <| Q.as rfl <| Q.nt <| UW.ret <| ?_
  exact retR [] (fun _ => res_tmp rfl rfl) (by simp) fun hd => ⟨rfl, rfl⟩
theorem less_spec (s p : ByteArray) (H : Hp) :
    ACall Tryz.prog 65 [.v (.string s), .v (.string p)] H (IsR H (.v (.bool (decide (cmpB s p < 0))))) := by
  refine UCall (n := 9) (H0 := H) (objs := []) Tryz.func65 (by kernel_rfl) rfl (by rw [Tryz.ntmps65]; rfl) .nil <| ?_
  refine Q.rg <| Q.as rfl <| Q.nt <| Q.rg <| Q.mv rfl <| Q.mv rfl <| US.call_pure rfl (by decide) rfl rfl rfl rfl (fun _ => compare_spec s p _) <| Q.bi rfl rfl rfl <| Q.as rfl <| Q.nt <| UW.ret <| ?_
  exact retR [] (fun _ => res_tmp rfl rfl) (by simp) fun hd => ⟨rfl, rfl⟩
def errB : ByteArray := ⟨#[0xEF, 0xBF, 0xBD]⟩
def badAt (s : ByteArray) (pos : Nat) : Bool := (Utf8.decode s pos).1 == 65533 && !(pre (s.extract pos s.size) errB)
def chkF (s : ByteArray) : Nat → Nat → Int
  | 0, _ => -1
  | f + 1, pos => if pos < s.size then (if badAt s pos then (pos : Int) else chkF s f (pos + (Utf8.decode s pos).2)) else -1
/-- The first byte that begins no rune, or -1. -/
def chk (s : ByteArray) : Int := chkF s (s.size + 1) 0
end Go.Proofs.YtgmfgmbgmjbdhaaGreatDoor
end
