/- What is right stays right; what the document redacts is what the program redacts. -/
import Derived.Test.YtgmfgmbgmjbdhaaGreatDoorKx40
namespace Go.Proofs.YtgmfgmbgmjbdhaaGreatDoor
open Go Go.RowKit Go.Eng
set_option linter.unusedSimpArgs false
set_option linter.unusedVariables false
set_option maxRecDepth 100000
set_option maxHeartbeats 4000000
theorem right_txt {x : V} (h : rightV x = true) (h3 : x.k = 3) : x = strV x.t ∧ chk x.t < 0 := by
  obtain ⟨k, n, t, ks, vs⟩ := x
  have hk : k = 3 := h3
  subst hk
  have hv4 : ¬ 0 < vs.length := fun hp => by rw [right_no4 (by decide) hp] at h; cases h
  have hkd : keyedV (.mk 3 n t ks vs) = true := by
    cases e : keyedV (.mk 3 n t ks vs) with
    | true => rfl
    | false => rw [right_no3 e] at h; cases h
  rw [keyedV_else (by decide), beq_iff_eq] at hkd
  have hn : n = 0 := by
    by_cases e : n = 0
    · exact e
    · rw [right_no1 (.inr (.inr (.inr (.inr ⟨by decide, by decide, e⟩))))] at h; cases h
  have ht : textOk 3 t = true := by
    cases e : textOk 3 t with
    | true => rfl
    | false => rw [right_no2 e] at h; cases h
  obtain rfl : vs = [] := List.eq_nil_of_length_eq_zero (by omega)
  obtain rfl : ks = [] := List.eq_nil_of_length_eq_zero (by omega)
  subst hn
  refine ⟨rfl, ?_⟩
  show chk t < 0
  by_cases he : t.toList = (⟨#[]⟩ : ByteArray).toList
  · rw [bytes_ext he]; exact of_decide_eq_true (by kernel_rfl)
  · by_cases hc : 0 ≤ chk t
    · unfold textOk at ht; rw [decide_eq_true hc, beq_f he] at ht; cases ht
    · omega
theorem right_O {x : V} (h : rightV x = true) (h5 : x.k = 5) : O x ∧ (∀ s ∈ x.ks, chk s < 0) ∧ ∀ v ∈ x.vs, rightV v = true := by
  obtain ⟨k, n, t, ks, vs⟩ := x
  have hk : k = 5 := h5
  subst hk
  have hv := right_vals h
  obtain ⟨h1, h2, h3, h4, _⟩ := right_obj.1 h
  obtain ⟨h6, h7⟩ := asc_of_ok h3
  have ht : t = ⟨#[]⟩ := by
    by_cases he : t.toList = (⟨#[]⟩ : ByteArray).toList
    · exact bytes_ext he
    · unfold textOk at h2; rw [beq_f he] at h2; cases h2
  exact ⟨⟨rfl, h1, ht, h4, h6⟩, h7, hv⟩
theorem O.right {x : V} (h : O x) (hk : ∀ s ∈ x.ks, chk s < 0) (hv : ∀ v ∈ x.vs, rightV v = true) : rightV x = true := by
  rw [h.form]
  exact right_obj.2 ⟨rfl, by kernel_rfl, ok_of_asc h.asc hk, h.len, rightsV_all fun i hi => hv _ (List.getElem_mem hi)⟩
theorem right_get {x : V} (h : rightV x = true) (key : ByteArray) : rightV (getV x key).1 = true := by
  unfold getV
  split
  · rename_i i _
    by_cases hi : i < x.vs.length
    · obtain ⟨k, n, t, ks, vs⟩ := x
      exact right_vals h _ (getD_mem hi)
    · simp only [List.getD, List.getElem?_eq_none (Nat.le_of_not_lt hi)]; exact right_zero
  · exact right_zero
theorem with_keys {x : V} (h : O x) (key : ByteArray) (y : V) : (∀ s ∈ (withV x key y).ks, s ∈ x.ks ∨ s = key) ∧ ∀ v ∈ (withV x key y).vs, v ∈ x.vs ∨ v = y := by
  have e := h.form
  obtain ⟨ks', vs', e1, e2, e3, e4, e5⟩ := with_form (n := 0) (t := ⟨#[]⟩) h.len h.asc key y
  rw [← e] at e1
  rw [e1]
  exact ⟨e4, e5⟩
theorem right_with {x : V} (h : O x) (hr : rightV x = true) {key : ByteArray} (hk : chk key < 0) {y : V} (hy : rightV y = true) : rightV (withV x key y) = true := by
  obtain ⟨_, h1, h2⟩ := right_O hr h.k
  obtain ⟨h3, h4⟩ := with_keys h key y
  exact (h.with key y).right (fun s hs => (h3 s hs).elim (h1 s) (fun e => e ▸ hk)) (fun v hv => (h4 v hv).elim (h2 v) (fun e => e ▸ hy))
theorem right_empty : rightV (.mk 5 0 ⟨#[]⟩ [] []) = true := by kernel_rfl
theorem getD_all {p : ByteArray → Bool} {l : List ByteArray} (h : l.all p = true) (h0 : p ⟨#[]⟩ = true) (i : Nat) : p (l.getD i ⟨#[]⟩) = true := by
  by_cases hi : i < l.length
  · exact List.all_eq_true.1 h _ (getD_mem hi)
  · simp only [List.getD, List.getElem?_eq_none (Nat.le_of_not_lt hi)]; exact h0
def chkB (s : ByteArray) : Bool := decide (chk s < 0)
def rgtB (s : ByteArray) : Bool := rightV (strV s)
theorem bodyX_right (c : List Int) (hc : Bys c) (k : Int) (j : Nat) : rightV (bodyX c k j) = true := by
  have hb := bys_getD hc j
  unfold bodyX
  repeat' split
  · exact getD_all (p := rgtB) (by kernel_rfl) (by kernel_rfl) _
  · exact getD_all (p := rgtB) (by kernel_rfl) (by kernel_rfl) _
  · exact partV_right _ _ (wrap8 _).1
  · have h1 := Int.tmod_nonneg 120 hb.1
    have h2 := Int.tmod_lt_of_pos (c.getD j 0) (by decide : (0 : Int) < 120)
    exact right_yes (by decide) (by decide) ⟨fun h => absurd h (by decide), fun _ => by omega, fun _ h => absurd rfl h⟩ (by kernel_rfl) (by kernel_rfl) (by decide) (by kernel_rfl)
theorem bodyN_right (c : List Int) (hc : Bys c) (k : Int) : ∀ j, O (bodyN c k j) ∧ rightV (bodyN c k j) = true
  | 0 => ⟨O.empty, right_empty⟩
  | j + 1 => by
    obtain ⟨h1, h2⟩ := bodyN_right c hc k j
    exact ⟨h1.with _ _, right_with h1 h2 (of_decide_eq_true (getD_all (p := chkB) (by kernel_rfl) (by kernel_rfl) _)) (bodyX_right c hc k j)⟩
theorem wideX_right (c : List Int) (hc : Bys c) (k : Int) (hk : 0 ≤ k) (j : Nat) : rightV (wideX c k j) = true := by
  unfold wideX
  repeat' split
  · exact getD_all (p := rgtB) (by kernel_rfl) (by kernel_rfl) _
  · exact (bodyN_right _ (hc.drop j) k _).2
  · exact partV_right _ _ hk
theorem wideN_right (c : List Int) (hc : Bys c) (k : Int) (hk : 0 ≤ k) : ∀ j, O (wideN c k j) ∧ rightV (wideN c k j) = true
  | 0 => ⟨O.empty, right_empty⟩
  | j + 1 => by
    obtain ⟨h1, h2⟩ := wideN_right c hc k hk j
    exact ⟨h1.with _ _, right_with h1 h2 (of_decide_eq_true (getD_all (p := chkB) (by kernel_rfl) (by kernel_rfl) _)) (wideX_right c hc k hk j)⟩
theorem wide_right (c : List Int) (hc : Bys c) (k : Int) (hk : 0 ≤ k) : rightV (wideV c k) = true := (wideN_right c hc k hk _).2
theorem contU_get {x : V} (h : O x) (kind : ByteArray) : ∀ j, j ≤ x.ks.length → O (contU kind x j) ∧ ∀ key, (key ∈ x.ks.take j ∧ keptB kind key = false → getV (contU kind x j) key = (zeroV, false)) ∧ (¬ (key ∈ x.ks.take j ∧ keptB kind key = false) → getV (contU kind x j) key = getV x key)
  | 0, _ => ⟨h, fun key => ⟨fun e => absurd e.1 List.not_mem_nil, fun _ => rfl⟩⟩
  | j + 1, hj => by
    obtain ⟨h1, h2⟩ := contU_get h kind j (by omega)
    have ht : ∀ key, key ∈ x.ks.take (j + 1) ↔ key ∈ x.ks.take j ∨ key = x.ks.getD j ⟨#[]⟩ := fun key => by
      rw [List.take_add_one, List.getElem?_eq_getElem (show j < x.ks.length by omega), List.mem_append, getD_at (show j < x.ks.length by omega)]
      simp
    unfold contU
    by_cases hk : keptB kind (x.ks.getD j ⟨#[]⟩) = true
    · rw [if_pos hk]
      refine ⟨h1, fun key => ⟨fun e => (h2 key).1 ⟨((ht key).1 e.1).elim id (fun e1 => ?_), e.2⟩, fun e => (h2 key).2 fun e1 => e ⟨(ht key).2 (.inl e1.1), e1.2⟩⟩⟩
      rw [e1, hk] at e; cases e.2
    · rw [if_neg hk]
      have hkf : keptB kind (x.ks.getD j ⟨#[]⟩) = false := by simpa using hk
      refine ⟨h1.wo _, fun key => ?_⟩
      by_cases he : key = x.ks.getD j ⟨#[]⟩
      · subst he
        exact ⟨fun _ => h1.get_wo _, fun e => absurd ⟨(ht _).2 (.inr rfl), hkf⟩ e⟩
      · rw [h1.get_wo_other he]
        exact ⟨fun e => (h2 key).1 ⟨((ht key).1 e.1).elim id (fun e1 => absurd e1 he), e.2⟩, fun e => (h2 key).2 fun e1 => e ⟨(ht key).2 (.inl e1.1), e1.2⟩⟩
theorem cont_pick {x : V} (h : O x) (kind : ByteArray) : contV kind x = pickV x (keptB kind) := by
  obtain ⟨h1, h2⟩ := contU_get h kind x.ks.length (Nat.le_refl _)
  refine O.ext h1 (h.pick _) fun key => ?_
  have h2 := h2 key
  rw [List.take_length] at h2
  rw [h.get_pick]
  cases hk : keptB kind key with
  | true => rw [if_pos rfl]; exact h2.2 fun e => by rw [hk] at e; cases e.2
  | false =>
    rw [if_neg (show ¬ (false = true) by decide)]
    by_cases hm : key ∈ x.ks
    · exact h2.1 ⟨hm, hk⟩
    · refine (h2.2 fun e => hm e.1).trans <| get_no <| ?_
      cases e : (getV x key).2 with
      | false => rfl
      | true => exact absurd (h.has.1 e) hm
def fieldX (x : V) (key : ByteArray) : V := if key = contentB ∧ (getV x key).1.k = 5 then contV (getV x typeB).1.t (getV x key).1 else (getV x key).1
theorem redU_get (x : V) : ∀ j, j ≤ 10 → O (redU x j) ∧ ∀ key, (key ∈ fieldL.take j ∧ (getV x key).2 = true → getV (redU x j) key = (fieldX x key, true)) ∧ (¬ (key ∈ fieldL.take j ∧ (getV x key).2 = true) → getV (redU x j) key = (zeroV, false))
  | 0, _ => ⟨O.empty, fun key => ⟨fun e => absurd e.1 List.not_mem_nil, fun _ => rfl⟩⟩
  | j + 1, hj => by
    obtain ⟨h1, h2⟩ := redU_get x j (by omega)
    have hl : j < fieldL.length := by show j < 10; omega
    have ht : ∀ key, key ∈ fieldL.take (j + 1) ↔ key ∈ fieldL.take j ∨ key = fieldL.getD j ⟨#[]⟩ := fun key => by
      rw [List.take_add_one, List.getElem?_eq_getElem hl, List.mem_append, getD_at hl]
      simp
    have hs : redU x (j + 1) = if (getV x (fieldL.getD j ⟨#[]⟩)).2 = true then withV (redU x j) (fieldL.getD j ⟨#[]⟩) (fieldX x (fieldL.getD j ⟨#[]⟩)) else redU x j := rfl
    rw [hs]
    by_cases hb : (getV x (fieldL.getD j ⟨#[]⟩)).2 = true
    · rw [if_pos hb]
      refine ⟨h1.with _ _, fun key => ?_⟩
      by_cases he : key = fieldL.getD j ⟨#[]⟩
      · subst he
        exact ⟨fun _ => h1.get_with _ _, fun e => absurd ⟨(ht _).2 (.inr rfl), hb⟩ e⟩
      · rw [h1.get_other he]
        exact ⟨fun e => (h2 key).1 ⟨((ht key).1 e.1).elim id (fun e1 => absurd e1 he), e.2⟩, fun e => (h2 key).2 fun e1 => e ⟨(ht key).2 (.inl e1.1), e1.2⟩⟩
    · rw [if_neg hb]
      refine ⟨h1, fun key => ⟨fun e => (h2 key).1 ⟨((ht key).1 e.1).elim id (fun e1 => ?_), e.2⟩, fun e => (h2 key).2 fun e1 => e ⟨(ht key).2 (.inl e1.1), e1.2⟩⟩⟩
      rw [e1] at e
      exact absurd e.2 hb
theorem redR_eq {x : V} (h : x.k = 5 → O x ∧ ((getV x contentB).1.k = 5 → O (getV x contentB).1)) : redR x = redP x := by
  by_cases h5 : x.k = 5
  · obtain ⟨ho, hc⟩ := h h5
    obtain ⟨h1, h2⟩ := redU_get x 10 (Nat.le_refl _)
    have e : redR x = redU x 10 := by unfold redR; rw [if_pos h5]
    rw [e]
    refine O.ext h1 ho.red fun key => ?_
    have h2 := h2 key
    rw [ho.get_red]
    have hm : key ∈ fieldL.take 10 ↔ hasB fieldL key = true := hasB_mem.symm
    by_cases hf : hasB fieldL key = true
    · rw [if_pos hf]
      cases hi : (getV x key).2 with
      | true =>
        refine (h2.1 ⟨hm.2 hf, hi⟩).trans <| ?_
        unfold fieldX
        by_cases hk : key = contentB ∧ (getV x contentB).1.k = 5
        · obtain ⟨rfl, hk5⟩ := hk
          rw [if_pos ⟨rfl, hk5⟩, if_pos ⟨rfl, hk5⟩, cont_pick (hc hk5)]
        · have hk' : ¬ (key = contentB ∧ (getV x key).1.k = 5) := fun e => hk ⟨e.1, by rw [← e.1]; exact e.2⟩
          rw [if_neg hk, if_neg hk', ← hi]
      | false =>
        refine (h2.2 (fun e => by rw [hi] at e; cases e.2)).trans <| ?_
        have hne : ¬ (key = contentB ∧ (getV x contentB).1.k = 5) := fun e => by
          have h3 := five_has e.2
          rw [← e.1, hi] at h3
          cases h3
        rw [if_neg hne, get_no hi]
    · rw [if_neg hf]
      exact h2.2 fun e => hf (hm.1 e.1)
  · unfold redR redP
    rw [if_neg h5, if_neg h5]
/-- What the document's Hashed says. -/
theorem hashedR_eq {x : V} (h : (getV (getV x hashesB).1 sha256B).1.k = 3 → (getV (getV x hashesB).1 sha256B).1 = strV (getV (getV x hashesB).1 sha256B).1.t) : hashedV x = (decide ((getV (getV x hashesB).1 sha256B).1.k = 3) && ((getV (getV x hashesB).1 sha256B).1.t.toList == (hashB x).toList)) := by
  unfold hashedV
  generalize (getV (getV x hashesB).1 sha256B).1 = y at *
  by_cases h3 : y.k = 3
  · rw [decide_eq_true h3, Bool.true_and]
    conv => lhs; rw [h h3]
    exact same_str _ _
  · rw [decide_eq_false h3, Bool.false_and]
    exact same_ne fun e => h3 (by rw [e]; rfl)
theorem hashR_spec (x : V) (hx : Fits x) (hp : Pr (bareV x)) (H : Hp) : ACall Tryz.prog 52 [.agg (encV x)] H (IsR H (.v (.string (hashB x)))) := by
  have hf1 := wo_fits' hx hashesB
  have hf2 : Fits (bareV x) := wo_fits' hf1 unsignedB
  have hsz := pr_size hp
  have hbl := bytesOf_len (printV (bareV x))
  have hbo := bytesOf_ok (printV (bareV x))
  have hsl := shaB_len (bytesOf (printV (bareV x)))
  have hso := shaB_ok (bytesOf (printV (bareV x)))
  have hw1 : ∀ H, ACall Tryz.prog 92 [.agg (encV x), .v (.string hashesB)] H (IsR H (.agg (encV (withoutV x hashesB)))) := fun H => withoutR_spec x hx hashesB H
  have hw2 : ∀ H, ACall Tryz.prog 92 [.agg (encV (withoutV x hashesB)), .v (.string unsignedB)] H (IsR H (.agg (encV (bareV x)))) := fun H => withoutR_spec _ hf1 unsignedB H
  have hpr : ∀ H, ACall Tryz.prog 37 [.agg (encV (bareV x))] H (IsR H (.v (.string (printV (bareV x))))) := fun H => printR_spec (bareV x) hf2 hp H
  unfold hashB
  generalize withoutV x hashesB = w1 at *
  generalize bareV x = w2 at *
  generalize printV w2 = pt at *
  obtain ⟨k, n, t, ks, vs⟩ := x
  refine UCall (n := 12) (H0 := H) (objs := []) Tryz.func52 (by kernel_rfl) rfl (by rw [Tryz.ntmps52]; rfl) .nil <| ?_
  refine Q.rg <| S.dd <| D.box rfl rfl rfl fun p1 => Q.as rfl <| Q.nt <| Q.rg <| S.qu (Z.ldw 0 ty26 rfl rfl rfl) <| S.qu (Z.call rfl rfl (fun H => hw1 H)) <| S.qu (Z.call rfl rfl (fun H => hw2 H)) <| S.qu (Z.call rfl rfl (fun H => hpr H)) <| Q.as rfl <| Q.nt <| Q.rg <| Q.mv rfl <| S.qu (Z.eq (u' := .sl (encY (bytesOf pt))) (Z.s2b Tryz.underlying9 Tryz.underlying22 (by rfl) rfl (by omega)) (by rw [encY_bytes])) <| ?_
  refine S.qu (Z.call rfl rfl (fun H => sumR_spec (bytesOf pt) (by omega) hbo H)) <| S.qu (Z.call rfl rfl (fun H => sealTR_spec (shaB (bytesOf pt)) (by omega) hso H)) <| Q.as rfl <| Q.nt <| UW.ret <| S.rtR (fun _ => res_tmp rfl rfl) <| ?_
  rfl
theorem sealedR_spec (x : V) (hx : Fits x) (hk : ∀ s ∈ x.ks, s.size ≤ 4000000) (hp : Pr (bareV x)) (H : Hp) : ACall Tryz.prog 25 [.agg (encV x)] H (IsR H (.agg (encV (sealedV x)))) := by
  have hh : ∀ H, ACall Tryz.prog 52 [.agg (encV x)] H (IsR H (.v (.string (hashB x)))) := fun H => hashR_spec x hx hp H
  have hw2 : ∀ H, ACall Tryz.prog 13 [.agg (encV x), .v (.string hashesB), .agg (encV (sealV (hashB x)))] H (IsR H (.agg (encV (sealedV x)))) := fun H => withR_spec x hx hk hashesB _ H
  generalize sealedV x = sx at *
  generalize hashB x = h at *
  obtain ⟨k, n, t, ks, vs⟩ := x
  refine UCall (n := 13) (H0 := H) (objs := []) Tryz.func25 (by kernel_rfl) rfl (by rw [Tryz.ntmps25]; rfl) .nil <| ?_
  refine Q.rg <| S.dd <| D.box rfl rfl rfl fun p1 => S.dd <| D.al z26 rfl rfl rfl fun p2 => Q.nt <| Q.rg <| S.qu (Z.eq (u' := strs [sha256B]) (Z.bl row23 rfl rfl (lit_ok rfl)) rfl) <| S.qu (Z.ldw 1 ty26 rfl rfl rfl) <| S.qu (Z.call rfl rfl (fun H => hh H)) <| S.qu (Z.call rfl rfl (fun H => strR_spec h H)) <| S.qu (Z.eq (u' := .sl (encVs [strV h])) (Z.bl row24 rfl rfl (lit_ok rfl)) rfl) <| S.qu (Z.eq (u' := .agg (encV (sealV h))) (Z.bd [0, 3, 4] bt26 rfl rfl rfl rfl rfl rfl) rfl) <| S.dd <| D.al z26 rfl rfl rfl fun p3 => S.s <| D.st 0 ty26 rfl rfl rfl rfl rfl rfl rfl rfl fun _ => Q.nt <| Q.rg <| S.qu (Z.ldw 2 ty26 rfl rfl rfl) <| S.qu (Z.ldw 0 ty26 rfl rfl rfl) <| S.qu (Z.call rfl rfl (fun H => hw2 H)) <| S.s <| D.stw 1 ty26 rfl rfl rfl rfl (by exact encV_cell _) (encV_len _) rfl rfl fun _ => ?_
  refine Q.nt <| UW.ret <| S.rtR (fun hd => res_cell (k := 1) hd rfl rfl rfl st26 (by rw [encV_len]; exact sz26)) <| ?_
  rfl
theorem hashedR_spec (x : V) (hx : Fits x) (hp : Pr (bareV x)) (hy : (getV (getV x hashesB).1 sha256B).1.k = 3 → (getV (getV x hashesB).1 sha256B).1 = strV (getV (getV x hashesB).1 sha256B).1.t) (H : Hp) : ACall Tryz.prog 53 [.agg (encV x)] H (IsR H (.v (.bool (hashedV x)))) := by
  rw [hashedR_eq hy]
  have hf1 := get_fits hx hashesB
  have hf2 := get_fits hf1 sha256B
  have hh : ∀ H, ACall Tryz.prog 52 [.agg (encV x)] H (IsR H (.v (.string (hashB x)))) := fun H => hashR_spec x hx hp H
  have hg1 : ∀ H, ACall Tryz.prog 22 [.agg (encV x), .v (.string hashesB)] H (IsR H (.tup [.agg (encV (getV x hashesB).1), .v (.bool (getV x hashesB).2)])) := fun H => getR_spec x hx hashesB H
  have hg2 : ∀ H, ACall Tryz.prog 22 [.agg (encV (getV x hashesB).1), .v (.string sha256B)] H (IsR H (.tup [.agg (encV (getV (getV x hashesB).1 sha256B).1), .v (.bool (getV (getV x hashesB).1 sha256B).2)])) := fun H => getR_spec _ hf1 sha256B H
  clear hy hf1 hf2
  generalize hashB x = h at *
  generalize (getV (getV x hashesB).1 sha256B).2 = b2 at *
  generalize (getV (getV x hashesB).1 sha256B).1 = y2 at *
  generalize (getV x hashesB).2 = b1 at *
  generalize (getV x hashesB).1 = y1 at *
  obtain ⟨k, n, t, ks, vs⟩ := x
  obtain ⟨k1, n1, t1, ks1, vs1⟩ := y1
  obtain ⟨k2, n2, t2, ks2, vs2⟩ := y2
  show ACall _ _ _ _ (IsR H (.v (.bool (decide (k2 = 3) && (t2.toList == h.toList)))))
  by_cases h3 : k2 = 3
  · subst h3
    refine UCall (n := 27) (H0 := H) (objs := []) Tryz.func53 (by kernel_rfl) rfl (by rw [Tryz.ntmps53]; rfl) .nil <| ?_
    refine Q.rg <| S.dd <| D.box rfl rfl rfl fun p1 => Q.as rfl <| Q.nt <| Q.rg <| S.qu (Z.ldw 0 ty26 rfl rfl rfl) <| S.qu (Z.call rfl rfl (fun H => hg1 H)) <| Q.mv rfl <| S.qu (Z.ex rfl rfl) <| S.qu (Z.ex rfl rfl) <| S.dd <| D.al z26 rfl rfl rfl fun p3 => S.s <| D.st 0 ty26 rfl rfl rfl rfl rfl rfl rfl rfl fun _ => Q.as rfl <| Q.nt <| Q.rg <| S.qu (Z.ldw 0 ty26 rfl rfl rfl) <| S.qu (Z.call rfl rfl (fun H => hg2 H)) <| Q.mv rfl <| S.qu (Z.ex rfl rfl) <| S.qu (Z.ex rfl rfl) <| S.dd <| D.al z26 rfl rfl rfl fun p5 => S.s <| D.st 0 ty26 rfl rfl rfl rfl rfl rfl rfl rfl fun _ => Q.as rfl <| Q.nt <| S.sq <| ?_
    refine' UW.draw' (by kernel_rfl) [0, 1, 3, 7, 15, 31, 15, 79, 255, 511, 1023] [some 17, some 18, some 19, some 20, some 21, some 22, some 23, some 24, some 25, some 26, some 2] [some (17, _), some (18, _), some (19, _), some (20, _), some (21, _), some (22, _), some (23, _), some (24, _), some (25, _), some (26, _), some (2, _)] [] [1, 5, 6] rfl (by decide) (by decide) (QAll.free (by decide) rfl rfl ?q2x0_0 (QAll.held (by decide) rfl rfl ?q2x0_1 (QAll.free (by decide) rfl rfl ?q2x0_2 (QAll.free (by decide) rfl rfl ?q2x0_3 (QAll.free (by decide) rfl rfl ?q2x0_4 (QAll.held (by decide) rfl rfl ?q2x0_5 (QAll.held (by decide) rfl rfl ?q2x0_6 (QAll.free (by decide) rfl rfl ?q2x0_7 (QAll.free (by decide) rfl rfl ?q2x0_8 (QAll.free (by decide) rfl rfl ?q2x0_9 (QAll.free (by decide) rfl rfl ?q2x0_10 QAll.nil))))))))))) ?q2x0_k
    case q2x0_0 => (intro _; exact Z.fa f26_0 rfl)
    case q2x0_1 => exact Z.ldc 0 ty3 rfl rfl rfl
    case q2x0_2 => (intro _; exact Z.tT (Z.bi rfl rfl rfl) (decide_eq_true (by omega)))
    case q2x0_3 => (intro _; exact Z.mv rfl)
    case q2x0_4 => (intro _; exact Z.on (Z.fa f26_2 rfl))
    case q2x0_5 => exact Z.on (Z.ldc 0 ty9 rfl rfl rfl)
    case q2x0_6 => exact Z.on (Z.ldw 2 ty26 rfl rfl rfl)
    case q2x0_7 => (intro _; exact Z.on (Z.call rfl rfl (fun H => hh H)))
    case q2x0_8 => (intro _; exact Z.on (Z.bs rfl rfl rfl))
    case q2x0_9 => (intro _; exact Z.pick rfl rfl)
    case q2x0_10 => (intro _; exact Z.as rfl)
    refine CH.nil <| ?_
    simp only [app, finL]
    refine UQ.then <| UW.ret <| S.rtR (fun _ => res_tmp rfl rfl) <| ?_
    rfl
  · rw [decide_eq_false h3, Bool.false_and]
    refine UCall (n := 27) (H0 := H) (objs := []) Tryz.func53 (by kernel_rfl) rfl (by rw [Tryz.ntmps53]; rfl) .nil <| ?_
    refine Q.rg <| S.dd <| D.box rfl rfl rfl fun p1 => Q.as rfl <| Q.nt <| Q.rg <| S.qu (Z.ldw 0 ty26 rfl rfl rfl) <| S.qu (Z.call rfl rfl (fun H => hg1 H)) <| Q.mv rfl <| S.qu (Z.ex rfl rfl) <| S.qu (Z.ex rfl rfl) <| S.dd <| D.al z26 rfl rfl rfl fun p3 => S.s <| D.st 0 ty26 rfl rfl rfl rfl rfl rfl rfl rfl fun _ => Q.as rfl <| Q.nt <| Q.rg <| S.qu (Z.ldw 0 ty26 rfl rfl rfl) <| S.qu (Z.call rfl rfl (fun H => hg2 H)) <| Q.mv rfl <| S.qu (Z.ex rfl rfl) <| S.qu (Z.ex rfl rfl) <| S.dd <| D.al z26 rfl rfl rfl fun p5 => S.s <| D.st 0 ty26 rfl rfl rfl rfl rfl rfl rfl rfl fun _ => Q.as rfl <| Q.nt <| S.sq <| ?_
    refine' UW.draw' (by kernel_rfl) [0, 1, 3, 7, 15, 31, 15, 79, 255, 511, 1023] [some 17, some 18, some 19, some 20, some 21, some 22, some 23, some 24, some 25, some 26, some 2] [some (17, _), some (18, _), some (19, _), some (20, _), some (21, _), some (22, _), some (23, _), some (24, _), some (25, _), some (26, _), some (2, _)] [] [1, 5, 6] rfl (by decide) (by decide) (QAll.free (by decide) rfl rfl ?q3x0_0 (QAll.held (by decide) rfl rfl ?q3x0_1 (QAll.free (by decide) rfl rfl ?q3x0_2 (QAll.free (by decide) rfl rfl ?q3x0_3 (QAll.free (by decide) rfl rfl ?q3x0_4 (QAll.held (by decide) rfl rfl ?q3x0_5 (QAll.held (by decide) rfl rfl ?q3x0_6 (QAll.free (by decide) rfl rfl ?q3x0_7 (QAll.free (by decide) rfl rfl ?q3x0_8 (QAll.free (by decide) rfl rfl ?q3x0_9 (QAll.free (by decide) rfl rfl ?q3x0_10 QAll.nil))))))))))) ?q3x0_k
    case q3x0_0 => (intro _; exact Z.fa f26_0 rfl)
    case q3x0_1 => exact Z.ldc 0 ty3 rfl rfl rfl
    case q3x0_2 => (intro _; exact Z.tF (Z.bi rfl rfl rfl) (decide_eq_false (by omega)))
    case q3x0_3 => (intro _; exact Z.mv rfl)
    case q3x0_4 => (intro _; exact Z.of)
    case q3x0_5 => exact Z.of
    case q3x0_6 => exact Z.of
    case q3x0_7 => (intro _; exact Z.of)
    case q3x0_8 => (intro _; exact Z.of)
    case q3x0_9 => (intro _; exact Z.pick rfl rfl)
    case q3x0_10 => (intro _; exact Z.as rfl)
    refine CH.nil <| ?_
    simp only [app, finL]
    refine UQ.then <| UW.ret <| S.rtR (fun _ => res_tmp rfl rfl) <| ?_
    rfl
theorem idT_spec (s : ByteArray) (hs : s.size ≤ 1000000000) (H : Hp) : ACall Tryz.prog 96 [.v (.string s)] H (IsR H (.v (.string (dollarB ++ textB (shaB (bytesOf s)))))) := by
  have hbl := bytesOf_len s
  have hbo := bytesOf_ok s
  have hsl := shaB_len (bytesOf s)
  have hso := shaB_ok (bytesOf s)
  have htz := (textF_size (shaB (bytesOf s)) (chunksUpto 3 11)).2
  have htl : (chunksUpto 3 11).length = 11 := by decide
  have hte : textB (shaB (bytesOf s)) = textF (shaB (bytesOf s)) (chunksUpto 3 11) := by unfold textB; rw [shaB_len]
  rw [← hte] at htz
  have hds : (⟨#[36]⟩ : ByteArray).size = 1 := rfl
  unfold dollarB
  refine UCall (n := 8) (H0 := H) (objs := []) Tryz.func96 (by kernel_rfl) rfl (by rw [Tryz.ntmps96]; rfl) .nil <| ?_
  refine Q.rg <| Q.as rfl <| Q.nt <| Q.rg <| Q.mv rfl <| S.qu (Z.eq (u' := .sl (encY (bytesOf s))) (Z.s2b Tryz.underlying9 Tryz.underlying22 (by rfl) rfl (by omega)) (by rw [encY_bytes])) <| ?_
  refine S.qu (Z.call rfl rfl (fun H => sumR_spec (bytesOf s) (by omega) hbo H)) <| S.qu (Z.call rfl rfl (fun H => sealTR_spec (shaB (bytesOf s)) (by omega) hso H)) <| S.qu (Z.cat rfl rfl (by omega)) <| Q.as rfl <| Q.nt <| UW.ret <| S.rtR (fun _ => res_tmp rfl rfl) <| ?_
  rfl
theorem idR_spec (x : V) (hx : Fits x) (hp : Pr (redP x)) (he : redR x = redP x) (H : Hp) : ACall Tryz.prog 55 [.agg (encV x)] H (IsR H (.v (.string (idB x)))) := by
  have hsz := pr_size hp
  have hr : ∀ H, ACall Tryz.prog 54 [.agg (encV x)] H (IsR H (.agg (encV (redP x)))) := fun H => he ▸ redactR_spec x hx H
  have hpr : ∀ H, ACall Tryz.prog 37 [.agg (encV (redP x))] H (IsR H (.v (.string (printV (redP x))))) := fun H => printR_spec (redP x) hp.fits hp H
  have hid : ∀ H, ACall Tryz.prog 96 [.v (.string (printV (redP x)))] H (IsR H (.v (.string (idB x)))) := fun H => idT_spec _ hsz H
  clear he
  generalize idB x = i at *
  generalize redP x = r at *
  generalize printV r = pt at *
  obtain ⟨k, n, t, ks, vs⟩ := x
  refine UCall (n := 7) (H0 := H) (objs := []) Tryz.func55 (by kernel_rfl) rfl (by rw [Tryz.ntmps55]; rfl) .nil <| ?_
  refine Q.rg <| S.dd <| D.box rfl rfl rfl fun p1 => Q.as rfl <| Q.nt <| Q.rg <| S.qu (Z.ldw 0 ty26 rfl rfl rfl) <| S.qu (Z.call rfl rfl (fun H => hr H)) <| S.qu (Z.call rfl rfl (fun H => hpr H)) <| S.qu (Z.call rfl rfl (fun H => hid H)) <| Q.as rfl <| Q.nt <| UW.ret <| S.rtR (fun _ => res_tmp rfl rfl) <| ?_
  rfl
/-- What makes is asked of. -/
structure MK (v : V) : Prop where
  fits : Fits v
  keys : ∀ s ∈ v.ks, s.size ≤ 4000000
  wt : Wt 100000000 v
  few : v.ks.length ≤ 500000 ∧ v.vs.length ≤ 500000
  obj : v.k = 5 → O v ∧ ((getV v contentB).1.k = 5 → O (getV v contentB).1)
  txt : (getV (getV v hashesB).1 sha256B).1.k = 3 → (getV (getV v hashesB).1 sha256B).1 = strV (getV (getV v hashesB).1 sha256B).1.t
theorem makes_spec (v : V) (h : MK v) (H : Hp) (hG : Glob H) : ACall Tryz.prog 24 [.agg (encV v)] H (IsR H (.v (.bool true))) := by
  have hvf := h.fits
  have hvp : Pr (bareV v) := pr_bare hvf (h.wt.up (by decide))
  have hrf : Fits (redP v) := red_fits hvf h.few.1
  have hrp : Pr (redP v) := pr_of hrf ((h.wt.red (by decide)).up (by decide))
  have hre : redR v = redP v := redR_eq h.obj
  have hsf : Fits (sealedV v) := with_fits2 hvf _ (sealV_fits _) h.few.1 h.few.2
  have ha1 := fun H h => hash_spec v hvf hvp H h
  have ha2 := fun H => hashR_spec v hvf hvp H
  have hb1 := fun H h => sealed_spec v hvf hvp H h
  have hb2 := fun H => sealedR_spec v hvf h.keys hvp H
  have hc1 := fun H h => hashed_spec v hvf hvp H h
  have hc2 := fun H => hashedR_spec v hvf hvp h.txt H
  have hd1 := fun H h => redact_spec v hvf H h
  have hd2 : ∀ H, ACall Tryz.prog 54 [.agg (encV v)] H (IsR H (.agg (encV (redP v)))) := fun H => hre ▸ redactR_spec v hvf H
  have he1 := fun H h => id_spec v hvf hrp H h
  have he2 := fun H => idR_spec v hvf hrp hre H
  have hs1 : ∀ H, ACall Tryz.prog 18 [.agg (encV (sealedV v)), .agg (encV (sealedV v))] H (IsR H (.v (.bool true))) := fun H => by
    have := sameR_spec (sealedV v) hsf (sealedV v) H
    rwa [same_self _ hsf] at this
  have hs2 : ∀ H, ACall Tryz.prog 18 [.agg (encV (redP v)), .agg (encV (redP v))] H (IsR H (.v (.bool true))) := fun H => by
    have := sameR_spec (redP v) hrf (redP v) H
    rwa [same_self _ hrf] at this
  clear hre hsf hrf hrp hvp h
  generalize hashB v = hb at *
  generalize sealedV v = s at *
  generalize hashedV v = hd at *
  generalize redP v = r at *
  generalize idB v = i at *
  obtain ⟨k, n, t, ks, vs⟩ := v
  refine UCall (n := 36) (H0 := H) (objs := []) Tryz.func24 (by kernel_rfl) rfl (by rw [Tryz.ntmps24]; rfl) .nil <| ?_
  refine Q.rg <| S.dd <| D.box rfl rfl rfl fun p1 => Q.as rfl <| Q.nt <| S.sq <| ?_
  refine' UW.draw' (by kernel_rfl) [0, 1, 0, 7, 15, 31, 63, 127, 63, 511, 1023, 2047, 4095, 8191, 16383, 8191, 65535, 131071, 262143, 524287, 1048575, 2097151, 1048575, 8388607, 16777215, 33554431, 67108863, 134217727, 268435455, 134217727, 1073741823, 2147483647, 4294967295, 8589934591] [some 3, some 4, some 5, some 6, some 7, some 8, some 9, some 10, some 11, some 12, some 13, some 14, some 15, some 16, some 17, some 18, some 19, some 20, some 21, some 22, some 23, some 24, some 25, some 26, some 27, some 28, some 29, some 30, some 31, some 32, some 33, some 34, some 35, some 2] [some (3, _), some (4, _), some (5, _), some (6, _), some (7, _), some (8, _), some (9, _), some (10, _), some (11, _), some (12, _), some (13, _), some (14, _), some (15, _), some (16, _), some (17, _), some (18, _), some (19, _), some (20, _), some (21, _), some (22, _), some (23, _), some (24, _), some (25, _), some (26, _), some (27, _), some (28, _), some (29, _), some (30, _), some (31, _), some (32, _), some (33, _), some (34, _), some (35, _), some (2, _)] [] [0, 2, 6, 8, 13, 15, 20, 22, 27, 29] rfl (by decide) (by decide) (QAll.held (by decide) rfl rfl ?q6x0_0 (QAll.free (by decide) rfl rfl ?q6x0_1 (QAll.held (by decide) rfl rfl ?q6x0_2 (QAll.free (by decide) rfl rfl ?q6x0_3 (QAll.free (by decide) rfl rfl ?q6x0_4 (QAll.free (by decide) rfl rfl ?q6x0_5 (QAll.held (by decide) rfl rfl ?q6x0_6 (QAll.free (by decide) rfl rfl ?q6x0_7 (QAll.held (by decide) rfl rfl ?q6x0_8 (QAll.free (by decide) rfl rfl ?q6x0_9 (QAll.free (by decide) rfl rfl ?q6x0_10 (QAll.free (by decide) rfl rfl ?q6x0_11 (QAll.free (by decide) rfl rfl ?q6x0_12 (QAll.held (by decide) rfl rfl ?q6x0_13 (QAll.free (by decide) rfl rfl ?q6x0_14 (QAll.held (by decide) rfl rfl ?q6x0_15 (QAll.free (by decide) rfl rfl ?q6x0_16 (QAll.free (by decide) rfl rfl ?q6x0_17 (QAll.free (by decide) rfl rfl ?q6x0_18 (QAll.free (by decide) rfl rfl ?q6x0_19 (QAll.held (by decide) rfl rfl ?q6x0_20 (QAll.free (by decide) rfl rfl ?q6x0_21 (QAll.held (by decide) rfl rfl ?q6x0_22 (QAll.free (by decide) rfl rfl ?q6x0_23 (QAll.free (by decide) rfl rfl ?q6x0_24 (QAll.free (by decide) rfl rfl ?q6x0_25 (QAll.free (by decide) rfl rfl ?q6x0_26 (QAll.held (by decide) rfl rfl ?q6x0_27 (QAll.free (by decide) rfl rfl ?q6x0_28 (QAll.held (by decide) rfl rfl ?q6x0_29 (QAll.free (by decide) rfl rfl ?q6x0_30 (QAll.free (by decide) rfl rfl ?q6x0_31 (QAll.free (by decide) rfl rfl ?q6x0_32 (QAll.free (by decide) rfl rfl ?q6x0_33 QAll.nil)))))))))))))))))))))))))))))))))) ?q6x0_k
  case q6x0_0 => exact Z.ldw 0 ty26 rfl rfl rfl
  case q6x0_1 => (intro _; exact Z.callg rfl rfl (fun _ hS => ha1 _ (hG.mono hS)))
  case q6x0_2 => exact Z.ldw 0 ty26 rfl rfl rfl
  case q6x0_3 => (intro _; exact Z.call rfl rfl (fun H => ha2 H))
  case q6x0_4 => (intro _; exact Z.eq (u' := .v (.bool true)) (Z.bs rfl rfl rfl) (by simp))
  case q6x0_5 => (intro _; exact Z.mv rfl)
  case q6x0_6 => exact Z.on (Z.ldw 0 ty26 rfl rfl rfl)
  case q6x0_7 => (intro _; exact Z.on (Z.callg rfl rfl (fun _ hS => hb1 _ (hG.mono hS))))
  case q6x0_8 => exact Z.on (Z.ldw 0 ty26 rfl rfl rfl)
  case q6x0_9 => (intro _; exact Z.on (Z.call rfl rfl (fun H => hb2 H)))
  case q6x0_10 => (intro _; exact Z.on (Z.call rfl rfl (fun H => hs1 H)))
  case q6x0_11 => (intro _; exact Z.pick rfl rfl)
  case q6x0_12 => (intro _; exact Z.mv rfl)
  case q6x0_13 => exact Z.on (Z.ldw 0 ty26 rfl rfl rfl)
  case q6x0_14 => (intro _; exact Z.on (Z.callg rfl rfl (fun _ hS => hc1 _ (hG.mono hS))))
  case q6x0_15 => exact Z.on (Z.ldw 0 ty26 rfl rfl rfl)
  case q6x0_16 => (intro _; exact Z.on (Z.call rfl rfl (fun H => hc2 H)))
  case q6x0_17 => (intro _; exact Z.on (Z.eq (u' := .v (.bool true)) (Z.beq Tryz.underlying4 rfl rfl) (by simp)))
  case q6x0_18 => (intro _; exact Z.pick rfl rfl)
  case q6x0_19 => (intro _; exact Z.mv rfl)
  case q6x0_20 => exact Z.on (Z.ldw 0 ty26 rfl rfl rfl)
  case q6x0_21 => (intro _; exact Z.on (Z.callg rfl rfl (fun _ hS => hd1 _ (hG.mono hS))))
  case q6x0_22 => exact Z.on (Z.ldw 0 ty26 rfl rfl rfl)
  case q6x0_23 => (intro _; exact Z.on (Z.call rfl rfl (fun H => hd2 H)))
  case q6x0_24 => (intro _; exact Z.on (Z.call rfl rfl (fun H => hs2 H)))
  case q6x0_25 => (intro _; exact Z.pick rfl rfl)
  case q6x0_26 => (intro _; exact Z.mv rfl)
  case q6x0_27 => exact Z.on (Z.ldw 0 ty26 rfl rfl rfl)
  case q6x0_28 => (intro _; exact Z.on (Z.callg rfl rfl (fun _ hS => he1 _ (hG.mono hS))))
  case q6x0_29 => exact Z.on (Z.ldw 0 ty26 rfl rfl rfl)
  case q6x0_30 => (intro _; exact Z.on (Z.call rfl rfl (fun H => he2 H)))
  case q6x0_31 => (intro _; exact Z.on (Z.eq (u' := .v (.bool true)) (Z.bs rfl rfl rfl) (by simp)))
  case q6x0_32 => (intro _; exact Z.pick rfl rfl)
  case q6x0_33 => (intro _; exact Z.as rfl)
  refine CH.nil <| ?_
  simp only [app, finL]
  refine UQ.then <| UW.ret <| S.rtR (fun _ => res_tmp rfl rfl) <| ?_
  rfl
theorem wtK_len : ∀ l : List ByteArray, l.length ≤ wtK l
  | [] => Nat.zero_le _
  | x :: r => by have := wtK_len r; rw [wtK, List.length_cons]; omega
theorem wtVs_len : ∀ l : List V, l.length ≤ wtVs l
  | [] => Nat.zero_le _
  | x :: r => by have := wtVs_len r; rw [wtVs, List.length_cons]; omega
theorem tx_keys {x : V} (h : Tx x) : ∀ s ∈ x.ks, s.size ≤ 4000000 := by obtain ⟨k, n, t, ks, vs⟩ := x; exact h.keys
theorem mk_wide (c : List Int) (hc : Bys c) (k : Int) (hk : 0 ≤ k) : MK (wideV c k) := by
  obtain ⟨hve, hvw⟩ := wide_good hc k hk
  have hr := wide_right c hc k hk
  refine ⟨hve.fits (by decide), hve.keys, hvw.up (by decide), by have := hve.le; have := hve.len; omega, fun _ => ⟨wide_O c k, fun h5 => (right_O (right_get hr _) h5).1⟩, fun h3 => (right_txt (right_get (right_get hr _) _) h3).1⟩
theorem mk_sealed (c : List Int) (hc : Bys c) (k : Int) (hk : 0 ≤ k) : MK (sealedV (wideV c k)) := by
  obtain ⟨hve, hvw⟩ := wide_good hc k hk
  have ho := wide_O c k
  have hr := wide_right c hc k hk
  have hse : Ev (sealedV (wideV c k)) 19 := hve.with (by decide) (sealV_fits _)
  have e : getV (sealedV (wideV c k)) hashesB = (sealV (hashB (wideV c k)), true) := ho.get_with _ _
  have e2 : getV (sealedV (wideV c k)) contentB = getV (wideV c k) contentB := ho.get_other (by decide) _
  refine ⟨hse.fits (by decide), hse.keys, hvw.sealed.up (by decide), by have := hse.le; have := hse.len; omega, fun _ => ⟨ho.sealed, fun h5 => ?_⟩, fun _ => ?_⟩
  · rw [e2] at h5 ⊢
    exact (right_O (right_get hr _) h5).1
  · rw [e, get_sealV]; rfl
theorem mk_part (c : List Int) (hc : Bys c) (k : Int) (hk : 0 ≤ k) : MK (partV c k) := by
  obtain ⟨h1, h2, h3⟩ := partV_good c k hk
  have hr := partV_right c k hk
  have hw := (part_wt hc k hk).wt
  rw [wt_eq] at hw
  have hl1 := wtK_len (partV c k).ks
  have hl2 := wtVs_len (partV c k).vs
  refine ⟨h1, tx_keys h2, (part_wt hc k hk).up (by decide), ⟨by omega, by omega⟩, fun h5 => ⟨(right_O hr h5).1, fun h5' => (right_O (right_get hr _) h5').1⟩, fun h3 => (right_txt (right_get (right_get hr _) _) h3).1⟩
def mkL : List ByteArray := [membershipB, ⟨#[98, 97, 110]⟩, joinRuleB, allowB, ⟨#[117, 115, 101, 114, 115]⟩, ⟨#[120]⟩]
theorem makes_law (kind key : ByteArray) (c : List Int) (k : Int) (hc : Bys c) (hk0 : 0 ≤ k) (hk1 : k ≤ 255) (H : Hp) (hG : Glob H) : ACall Tryz.prog 6 [.v (.string kind), .v (.string key), u8s c, .v (.int .u8 k)] H (IsR H (.v (.bool true))) := by
  have h1 := mk_wide c hc k hk0
  have h2 := mk_sealed c hc k hk0
  have h3 := mk_part c hc k hk0
  have hsp : Pr (bareV (wideV c k)) := pr_bare h1.fits (h1.wt.up (by decide))
  have hw := fun H => wide_spec c hc k hk0 (by omega) H
  have hp := fun H => part_spec c hc k hk0 (by omega) H
  have hm1 := fun H h => makes_spec _ h1 H h
  have hm2 := fun H h => makes_spec _ h2 H h
  have hm3 := fun H h => makes_spec _ h3 H h
  have hs := fun H => sealedR_spec _ h1.fits h1.keys hsp H
  have hkd := fun H => kind_spec k hk0 (by omega) H
  have hq0 := Int.tdiv_nonneg hk0 (by decide : (0 : Int) ≤ 7)
  have hwr : IntKind.u8.wrap (k.tdiv 7) = k.tdiv 7 := by rw [IntKind.wrap_u8, Int.tdiv_eq_ediv_of_nonneg hk0]; omega
  have hr0 := Int.tmod_nonneg 6 hq0
  have hr1 := Int.tmod_lt_of_pos (k.tdiv 7) (by decide : (0 : Int) < 6)
  have hgk := strs_getD mkL ((k.tdiv 7).tmod 6).toNat (by show _ < 6; omega)
  have hml : (mkL.map encS).length = 6 := rfl
  have hka := fun kd ky H h => kept_spec kd ky H h
  have hkb := fun kd ky H => keptR_spec kd ky H
  clear h1 h2 h3 hsp
  generalize sealedV (wideV c k) = sv at *
  generalize wideV c k = v at *
  generalize partV c k = p at *
  generalize kindB k = kd at *
  generalize mkL.getD ((k.tdiv 7).tmod 6).toNat ⟨#[]⟩ = kk at *
  generalize hsz : IntKind.i64.wrap ((kind.size : Int) + (key.size : Int)) = sz
  by_cases hbig : sz > 200
  · refine UCall (n := 69) (H0 := H) (objs := []) Tryz.func6 (by kernel_rfl) rfl (by rw [Tryz.ntmps6]; rfl) .nil <| ?_
    refine Q.rg <| Q.as rfl <| Q.nt <| S.sq <| Q.rg <| Q.mv rfl <| S.qu (Z.lnt Tryz.underlying9 rfl) <| Q.mv rfl <| S.qu (Z.lnt Tryz.underlying9 rfl) <| S.qu (Z.eq (u' := .v (.int .i64 sz)) (Z.bi rfl rfl rfl) (by rw [← hsz])) <| ?_
    refine Q.bi rfl rfl rfl <| Q.mv rfl <| S.tT 17 (decide_eq_true (by omega)) <| Q.of <| Q.of <| Q.pk rfl rfl <| Q.nt <| S.cT rfl rfl <| Q.rg <| S.qu (Z.callg rfl rfl (fun _ hS => kn7_spec _ (hG.mono hS))) <| Q.as rfl <| Q.nt <| UW.ret <| UQ.passR <| S.rtR (fun _ => res_tmp rfl rfl) <| ?_
    rfl
  · refine UCall (n := 69) (H0 := H) (objs := []) Tryz.func6 (by kernel_rfl) rfl (by rw [Tryz.ntmps6]; rfl) .nil <| ?_
    refine Q.rg <| Q.as rfl <| Q.nt <| S.sq <| Q.rg <| Q.mv rfl <| S.qu (Z.lnt Tryz.underlying9 rfl) <| Q.mv rfl <| S.qu (Z.lnt Tryz.underlying9 rfl) <| S.qu (Z.eq (u' := .v (.int .i64 sz)) (Z.bi rfl rfl rfl) (by rw [← hsz])) <| ?_
    refine Q.bi rfl rfl rfl <| Q.mv rfl <| S.tF 17 (decide_eq_false (by omega)) <| Q.on (Z.callg rfl rfl (fun _ hS => kn7_spec _ (hG.mono hS))) <| Q.on (Z.not rfl) <| Q.pk rfl rfl <| Q.nt <| S.cF rfl rfl <| UW.skip <| UQ.then <| Q.rg <| S.qu (Z.eq (u' := strs mkL) (Z.bl row23 rfl rfl (lit_ok rfl)) rfl) <| Q.as rfl <| Q.nt <| Q.rg <| Q.mv rfl <| Q.mv rfl <| S.qu (Z.call rfl rfl (fun H => hw H)) <| S.dd <| D.al z26 rfl rfl rfl fun p10 => S.s <| D.stw 0 ty26 rfl rfl rfl rfl (by exact encV_cell _) (encV_len _) rfl rfl fun _ => ?_
    refine Q.nt <| S.sq <| ?_
    refine' UW.draw' (by kernel_rfl) [0, 1, 3, 7, 15, 31, 63, 127, 255, 255, 1023, 2047, 4095, 8191, 16383, 16383, 65535, 16383, 16383, 524287, 1048575, 2097151, 4194303, 8388607, 16777215, 8388607, 8388607, 75497471, 209715199, 511705087, 1048575999, 2147483647, 8388607, 8589934591, 8388607, 8388607, 34368126975, 103087603711, 257706426367, 532584333311, 1099511627775, 2199023255551, 4398046511103, 8796093022207] [some 26, some 27, some 28, some 29, some 30, some 31, some 32, some 33, some 34, some 35, some 36, some 37, some 38, some 39, some 40, some 41, some 42, some 43, some 44, some 45, some 46, some 47, some 48, some 49, some 50, some 51, some 52, some 53, some 54, some 55, some 56, some 57, some 58, some 59, some 60, some 61, some 62, some 63, some 64, some 65, some 66, some 67, some 68, some 8] [some (26, _), some (27, _), some (28, _), some (29, _), some (30, _), some (31, _), some (32, _), some (33, _), some (34, _), some (35, _), some (36, _), some (37, _), some (38, _), some (39, _), some (40, _), some (41, _), some (42, _), some (43, _), some (44, _), some (45, _), some (46, _), some (47, _), some (48, _), some (49, _), some (50, _), some (51, _), some (52, _), some (53, _), some (54, _), some (55, _), some (56, _), some (57, _), some (58, _), some (59, _), some (60, _), some (61, _), some (62, _), some (63, _), some (64, _), some (65, _), some (66, _), some (67, _), some (68, _), some (8, _)] [] [0, 3, 30, 39] rfl (by decide) (by decide) (QAll.held (by decide) rfl rfl ?q8x0_0 (QAll.free (by decide) rfl rfl ?q8x0_1 (QAll.free (by decide) rfl rfl ?q8x0_2 (QAll.held (by decide) rfl rfl ?q8x0_3 (QAll.free (by decide) rfl rfl ?q8x0_4 (QAll.free (by decide) rfl rfl ?q8x0_5 (QAll.free (by decide) rfl rfl ?q8x0_6 (QAll.free (by decide) rfl rfl ?q8x0_7 (QAll.free (by decide) rfl rfl ?q8x0_8 (QAll.free (by decide) rfl rfl ?q8x0_9 (QAll.free (by decide) rfl rfl ?q8x0_10 (QAll.free (by decide) rfl rfl ?q8x0_11 (QAll.free (by decide) rfl rfl ?q8x0_12 (QAll.free (by decide) rfl rfl ?q8x0_13 (QAll.free (by decide) rfl rfl ?q8x0_14 (QAll.free (by decide) rfl rfl ?q8x0_15 (QAll.free (by decide) rfl rfl ?q8x0_16 (QAll.free (by decide) rfl rfl ?q8x0_17 (QAll.free (by decide) rfl rfl ?q8x0_18 (QAll.free (by decide) rfl rfl ?q8x0_19 (QAll.free (by decide) rfl rfl ?q8x0_20 (QAll.free (by decide) rfl rfl ?q8x0_21 (QAll.free (by decide) rfl rfl ?q8x0_22 (QAll.free (by decide) rfl rfl ?q8x0_23 (QAll.free (by decide) rfl rfl ?q8x0_24 (QAll.free (by decide) rfl rfl ?q8x0_25 (QAll.free (by decide) rfl rfl ?q8x0_26 (QAll.free (by decide) rfl rfl ?q8x0_27 (QAll.free (by decide) rfl rfl ?q8x0_28 (QAll.free (by decide) rfl rfl ?q8x0_29 (QAll.held (by decide) rfl rfl ?q8x0_30 (QAll.free (by decide) rfl rfl ?q8x0_31 (QAll.free (by decide) rfl rfl ?q8x0_32 (QAll.free (by decide) rfl rfl ?q8x0_33 (QAll.free (by decide) rfl rfl ?q8x0_34 (QAll.free (by decide) rfl rfl ?q8x0_35 (QAll.free (by decide) rfl rfl ?q8x0_36 (QAll.free (by decide) rfl rfl ?q8x0_37 (QAll.free (by decide) rfl rfl ?q8x0_38 (QAll.held (by decide) rfl rfl ?q8x0_39 (QAll.free (by decide) rfl rfl ?q8x0_40 (QAll.free (by decide) rfl rfl ?q8x0_41 (QAll.free (by decide) rfl rfl ?q8x0_42 (QAll.free (by decide) rfl rfl ?q8x0_43 QAll.nil)))))))))))))))))))))))))))))))))))))))))))) ?q8x0_k
    case q8x0_0 => exact Z.ldw 0 ty26 rfl rfl (encV_len _)
    case q8x0_1 => (intro _; exact Z.callg rfl rfl (fun _ hS => hm1 _ (hG.mono hS)))
    case q8x0_2 => (intro _; exact Z.mv rfl)
    case q8x0_3 => exact Z.on (Z.ldw 0 ty26 rfl rfl (encV_len _))
    case q8x0_4 => (intro _; exact Z.on (Z.call rfl rfl (fun H => hs H)))
    case q8x0_5 => (intro _; exact Z.on (Z.callg rfl rfl (fun _ hS => hm2 _ (hG.mono hS))))
    case q8x0_6 => (intro _; exact Z.pick rfl rfl)
    case q8x0_7 => (intro _; exact Z.mv rfl)
    case q8x0_8 => (intro _; exact Z.on (Z.mv rfl))
    case q8x0_9 => (intro _; exact Z.on (Z.mv rfl))
    case q8x0_10 => (intro _; exact Z.on (Z.call rfl rfl (fun H => hp H)))
    case q8x0_11 => (intro _; exact Z.on (Z.callg rfl rfl (fun _ hS => hm3 _ (hG.mono hS))))
    case q8x0_12 => (intro _; exact Z.pick rfl rfl)
    case q8x0_13 => (intro _; exact Z.mv rfl)
    case q8x0_14 => (intro _; exact Z.on (Z.mv rfl))
    case q8x0_15 => (intro _; exact Z.on (Z.mv rfl))
    case q8x0_16 => (intro _; exact Z.on (Z.callg rfl rfl (fun _ hS => hka kind key _ (hG.mono hS))))
    case q8x0_17 => (intro _; exact Z.on (Z.mv rfl))
    case q8x0_18 => (intro _; exact Z.on (Z.mv rfl))
    case q8x0_19 => (intro _; exact Z.on (Z.call rfl rfl (fun H => hkb kind key H)))
    case q8x0_20 => (intro _; exact Z.on (Z.eq (u' := .v (.bool true)) (Z.beq Tryz.underlying4 rfl rfl) (by simp)))
    case q8x0_21 => (intro _; exact Z.pick rfl rfl)
    case q8x0_22 => (intro _; exact Z.mv rfl)
    case q8x0_23 => (intro _; exact Z.on (Z.mv rfl))
    case q8x0_24 => (intro _; exact Z.on (Z.call rfl rfl (fun H => hkd H)))
    case q8x0_25 => (intro _; exact Z.on (Z.mv rfl))
    case q8x0_26 => (intro _; exact Z.on (Z.mv rfl))
    case q8x0_27 => (intro _; exact Z.on (Z.eq (u' := .v (.int .u8 (k.tdiv 7))) (Z.bi rfl rfl rfl) (by rw [hwr])))
    case q8x0_28 => (intro _; exact Z.on (Z.bi rfl rfl rfl))
    case q8x0_29 => (intro _; exact Z.on (Z.ia sl23 rfl rfl (by omega) hgk (by rfl)))
    case q8x0_30 => exact Z.on (Z.lpc ty9 rfl)
    case q8x0_31 => (intro _; exact Z.on (Z.callg rfl rfl (fun _ hS => hka kd kk _ (hG.mono hS))))
    case q8x0_32 => (intro _; exact Z.on (Z.mv rfl))
    case q8x0_33 => (intro _; exact Z.on (Z.call rfl rfl (fun H => hkd H)))
    case q8x0_34 => (intro _; exact Z.on (Z.mv rfl))
    case q8x0_35 => (intro _; exact Z.on (Z.mv rfl))
    case q8x0_36 => (intro _; exact Z.on (Z.eq (u' := .v (.int .u8 (k.tdiv 7))) (Z.bi rfl rfl rfl) (by rw [hwr])))
    case q8x0_37 => (intro _; exact Z.on (Z.bi rfl rfl rfl))
    case q8x0_38 => (intro _; exact Z.on (Z.ia sl23 rfl rfl (by omega) hgk (by rfl)))
    case q8x0_39 => exact Z.on (Z.lpc ty9 rfl)
    case q8x0_40 => (intro _; exact Z.on (Z.call rfl rfl (fun H => hkb kd kk H)))
    case q8x0_41 => (intro _; exact Z.on (Z.eq (u' := .v (.bool true)) (Z.beq Tryz.underlying4 rfl rfl) (by simp)))
    case q8x0_42 => (intro _; exact Z.pick rfl rfl)
    case q8x0_43 => (intro _; exact Z.as rfl)
    refine CH.nil <| ?_
    simp only [app, finL]
    refine UQ.then <| UW.ret <| S.rtR (fun _ => res_tmp rfl rfl) <| ?_
    rfl
end Go.Proofs.YtgmfgmbgmjbdhaaGreatDoor
