/- What is right stays right; what the document redacts is what the program redacts. -/
import Derived.Test.YtgmfgmbgmjbdhaaGreatDoorKy40
namespace Go.Proofs.YtgmfgmbgmjbdhaaGreatDoor
open Go Go.RowKit Go.Eng
set_option linter.unusedSimpArgs false
set_option linter.unusedVariables false
set_option maxRecDepth 100000
set_option maxHeartbeats 4000000
theorem right_txt {x : V} (h : rightV x = true) (h3 : x.k = 3) : x = strV x.t ∧ chk x.t < 0 := by
  obtain ⟨k, n, t, ks, vs⟩ := x
  have hk : k = 3 := h3
  subst hk
  have hv4 : ¬ 0 < vs.length := fun hp => by rw [right_no4 (by decide) hp] at h; cases h
  have hkd : keyedV (.mk 3 n t ks vs) = true := by
    cases e : keyedV (.mk 3 n t ks vs) with
    | true => rfl
    | false => rw [right_no3 e] at h; cases h
  rw [keyedV_else (by decide), beq_iff_eq] at hkd
  have hn : n = 0 := by
    by_cases e : n = 0
    · exact e
    · rw [right_no1 (.inr (.inr (.inr (.inr ⟨by decide, by decide, e⟩))))] at h; cases h
  have ht : textOk 3 t = true := by
    cases e : textOk 3 t with
    | true => rfl
    | false => rw [right_no2 e] at h; cases h
  obtain rfl : vs = [] := List.eq_nil_of_length_eq_zero (by omega)
  obtain rfl : ks = [] := List.eq_nil_of_length_eq_zero (by omega)
  subst hn
  refine ⟨rfl, ?_⟩
  show chk t < 0
  by_cases he : t.toList = (⟨#[]⟩ : ByteArray).toList
  · rw [bytes_ext he]; exact of_decide_eq_true (by kernel_rfl)
  · by_cases hc : 0 ≤ chk t
    · unfold textOk at ht; rw [decide_eq_true hc, beq_f he] at ht; cases ht
    · omega
theorem right_O {x : V} (h : rightV x = true) (h5 : x.k = 5) : O x ∧ (∀ s ∈ x.ks, chk s < 0) ∧ ∀ v ∈ x.vs, rightV v = true := by
  obtain ⟨k, n, t, ks, vs⟩ := x
  have hk : k = 5 := h5
  subst hk
  have hv := right_vals h
  obtain ⟨h1, h2, h3, h4, _⟩ := right_obj.1 h
  obtain ⟨h6, h7⟩ := asc_of_ok h3
  have ht : t = ⟨#[]⟩ := by
    by_cases he : t.toList = (⟨#[]⟩ : ByteArray).toList
    · exact bytes_ext he
    · unfold textOk at h2; rw [beq_f he] at h2; cases h2
  exact ⟨⟨rfl, h1, ht, h4, h6⟩, h7, hv⟩
theorem O.right {x : V} (h : O x) (hk : ∀ s ∈ x.ks, chk s < 0) (hv : ∀ v ∈ x.vs, rightV v = true) : rightV x = true := by
  rw [h.form]
  exact right_obj.2 ⟨rfl, by kernel_rfl, ok_of_asc h.asc hk, h.len, rightsV_all fun i hi => hv _ (List.getElem_mem hi)⟩
theorem right_get {x : V} (h : rightV x = true) (key : ByteArray) : rightV (getV x key).1 = true := by
  unfold getV
  split
  · rename_i i _
    by_cases hi : i < x.vs.length
    · obtain ⟨k, n, t, ks, vs⟩ := x
      exact right_vals h _ (getD_mem hi)
    · simp only [List.getD, List.getElem?_eq_none (Nat.le_of_not_lt hi)]; exact right_zero
  · exact right_zero
theorem with_keys {x : V} (h : O x) (key : ByteArray) (y : V) : (∀ s ∈ (withV x key y).ks, s ∈ x.ks ∨ s = key) ∧ ∀ v ∈ (withV x key y).vs, v ∈ x.vs ∨ v = y := by
  have e := h.form
  obtain ⟨ks', vs', e1, e2, e3, e4, e5⟩ := with_form (n := 0) (t := ⟨#[]⟩) h.len h.asc key y
  rw [← e] at e1
  rw [e1]
  exact ⟨e4, e5⟩
theorem right_with {x : V} (h : O x) (hr : rightV x = true) {key : ByteArray} (hk : chk key < 0) {y : V} (hy : rightV y = true) : rightV (withV x key y) = true := by
  obtain ⟨_, h1, h2⟩ := right_O hr h.k
  obtain ⟨h3, h4⟩ := with_keys h key y
  exact (h.with key y).right (fun s hs => (h3 s hs).elim (h1 s) (fun e => e ▸ hk)) (fun v hv => (h4 v hv).elim (h2 v) (fun e => e ▸ hy))
theorem right_empty : rightV (.mk 5 0 ⟨#[]⟩ [] []) = true := by kernel_rfl
theorem getD_all {p : ByteArray → Bool} {l : List ByteArray} (h : l.all p = true) (h0 : p ⟨#[]⟩ = true) (i : Nat) : p (l.getD i ⟨#[]⟩) = true := by
  by_cases hi : i < l.length
  · exact List.all_eq_true.1 h _ (getD_mem hi)
  · simp only [List.getD, List.getElem?_eq_none (Nat.le_of_not_lt hi)]; exact h0
def chkB (s : ByteArray) : Bool := decide (chk s < 0)
def rgtB (s : ByteArray) : Bool := rightV (strV s)
theorem bodyX_right (c : List Int) (hc : Bys c) (k : Int) (j : Nat) : rightV (bodyX c k j) = true := by
  have hb := bys_getD hc j
  unfold bodyX
  repeat' split
  · exact getD_all (p := rgtB) (by kernel_rfl) (by kernel_rfl) _
  · exact getD_all (p := rgtB) (by kernel_rfl) (by kernel_rfl) _
  · exact partV_right _ _ (wrap8 _).1
  · have h1 := Int.tmod_nonneg 120 hb.1
    have h2 := Int.tmod_lt_of_pos (c.getD j 0) (by decide : (0 : Int) < 120)
    exact right_yes (by decide) (by decide) ⟨fun h => absurd h (by decide), fun _ => by omega, fun _ h => absurd rfl h⟩ (by kernel_rfl) (by kernel_rfl) (by decide) (by kernel_rfl)
theorem bodyN_right (c : List Int) (hc : Bys c) (k : Int) : ∀ j, O (bodyN c k j) ∧ rightV (bodyN c k j) = true
  | 0 => ⟨O.empty, right_empty⟩
  | j + 1 => by
    obtain ⟨h1, h2⟩ := bodyN_right c hc k j
    exact ⟨h1.with _ _, right_with h1 h2 (of_decide_eq_true (getD_all (p := chkB) (by kernel_rfl) (by kernel_rfl) _)) (bodyX_right c hc k j)⟩
theorem wideX_right (c : List Int) (hc : Bys c) (k : Int) (hk : 0 ≤ k) (j : Nat) : rightV (wideX c k j) = true := by
  unfold wideX
  repeat' split
  · exact getD_all (p := rgtB) (by kernel_rfl) (by kernel_rfl) _
  · exact (bodyN_right _ (hc.drop j) k _).2
  · exact partV_right _ _ hk
theorem wideN_right (c : List Int) (hc : Bys c) (k : Int) (hk : 0 ≤ k) : ∀ j, O (wideN c k j) ∧ rightV (wideN c k j) = true
  | 0 => ⟨O.empty, right_empty⟩
  | j + 1 => by
    obtain ⟨h1, h2⟩ := wideN_right c hc k hk j
    exact ⟨h1.with _ _, right_with h1 h2 (of_decide_eq_true (getD_all (p := chkB) (by kernel_rfl) (by kernel_rfl) _)) (wideX_right c hc k hk j)⟩
theorem wide_right (c : List Int) (hc : Bys c) (k : Int) (hk : 0 ≤ k) : rightV (wideV c k) = true := (wideN_right c hc k hk _).2
/-- What makes is asked of. -/
structure MK (v : V) : Prop where
  fits : Fits v
  keys : ∀ s ∈ v.ks, s.size ≤ 4000000
  wt : Wt 100000000 v
  few : v.ks.length ≤ 500000 ∧ v.vs.length ≤ 500000
  obj : v.k = 5 → O v ∧ ((getV v contentB).1.k = 5 → O (getV v contentB).1)
  txt : (getV (getV v hashesB).1 sha256B).1.k = 3 → (getV (getV v hashesB).1 sha256B).1 = strV (getV (getV v hashesB).1 sha256B).1.t
theorem tx_keys {x : V} (h : Tx x) : ∀ s ∈ x.ks, s.size ≤ 4000000 := by obtain ⟨k, n, t, ks, vs⟩ := x; exact h.keys
theorem mk_wide (c : List Int) (hc : Bys c) (k : Int) (hk : 0 ≤ k) : MK (wideV c k) := by
  obtain ⟨hve, hvw⟩ := wide_good hc k hk
  have hr := wide_right c hc k hk
  refine ⟨hve.fits (by decide), hve.keys, hvw.up (by decide), by have := hve.le; have := hve.len; omega, fun _ => ⟨wide_O c k, fun h5 => (right_O (right_get hr _) h5).1⟩, fun h3 => (right_txt (right_get (right_get hr _) _) h3).1⟩
end Go.Proofs.YtgmfgmbgmjbdhaaGreatDoor
