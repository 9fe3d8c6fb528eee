/- Objects with sorted keys: the plain laws. -/
import Derived.Test.YtopaddebalfoeaaS4
namespace Go.Proofs.Ytopaddebalfoeaa
open Go Go.RowKit Go.Eng
set_option linter.unusedSimpArgs false
set_option linter.unusedVariables false
set_option maxRecDepth 100000
theorem cmpL_self : ∀ a : List UInt8, Lib.compareBytes a a = 0
  | [] => rfl
  | a :: l => by
    rw [Lib.compareBytes, if_neg (by exact UInt8.lt_irrefl a), if_neg (by exact UInt8.lt_irrefl a), cmpL_self l]
theorem u8_tri (a b : UInt8) (h1 : ¬ a < b) (h2 : ¬ b < a) : a = b := by
  apply UInt8.toNat_inj.1
  rw [UInt8.lt_iff_toNat_lt] at h1 h2
  omega
theorem cmpL_eq0 : ∀ a b : List UInt8, Lib.compareBytes a b = 0 → a = b
  | [], [], _ => rfl
  | [], _ :: _, h => by simp [Lib.compareBytes] at h
  | _ :: _, [], h => by simp [Lib.compareBytes] at h
  | a :: l, b :: r, h => by
    rw [Lib.compareBytes] at h
    split at h
    · cases h
    · split at h
      · cases h
      · rename_i h1 h2
        rw [u8_tri a b h1 h2, cmpL_eq0 l r h]
theorem cmpL_anti : ∀ a b : List UInt8, Lib.compareBytes b a = - Lib.compareBytes a b
  | [], [] => rfl
  | [], _ :: _ => rfl
  | _ :: _, [] => rfl
  | a :: l, b :: r => by
    rw [Lib.compareBytes, Lib.compareBytes]
    by_cases h1 : a < b
    · have h2 : ¬ b < a := by rw [UInt8.lt_iff_toNat_lt] at h1 ⊢; omega
      rw [if_neg h2, if_pos h1, if_pos h1]; rfl
    · by_cases h2 : b < a
      · rw [if_pos h2, if_neg h1, if_pos h2]
      · rw [if_neg h2, if_neg h1, if_neg h1, if_neg h2]; exact cmpL_anti l r
theorem cmpL_trans : ∀ a b c : List UInt8, Lib.compareBytes a b < 0 → Lib.compareBytes b c < 0 → Lib.compareBytes a c < 0
  | [], _, [], h1, h2 => by
    rename_i b
    cases b with
    | nil => simp [Lib.compareBytes] at h1
    | cons x r => simp [Lib.compareBytes] at h2
  | [], _, _ :: _, _, _ => by simp [Lib.compareBytes]
  | _ :: _, [], _, h1, _ => by simp [Lib.compareBytes] at h1
  | _ :: _, _ :: _, [], _, h2 => by simp [Lib.compareBytes] at h2
  | a :: l, b :: r, c :: q, h1, h2 => by
    rw [Lib.compareBytes] at h1 h2 ⊢
    by_cases ab : a < b
    · by_cases bc : b < c
      · rw [if_pos (by rw [UInt8.lt_iff_toNat_lt] at *; omega)]; decide
      · rw [if_neg bc] at h2
        by_cases cb : c < b
        · rw [if_pos cb] at h2; simp at h2
        · have := u8_tri b c bc cb; subst this
          rw [if_pos ab]; decide
    · rw [if_neg ab] at h1
      by_cases ba : b < a
      · rw [if_pos ba] at h1; simp at h1
      · have := u8_tri a b ab ba; subst this
        rw [if_neg ba] at h1
        by_cases bc : a < c
        · rw [if_pos bc]; decide
        · rw [if_neg bc] at h2 ⊢
          by_cases cb : c < a
          · rw [if_pos cb] at h2; simp at h2
          · rw [if_neg cb] at h2 ⊢; exact cmpL_trans l r q h1 h2
theorem less_irr (a : ByteArray) : lessB a a = false := by unfold lessB cmpB; rw [cmpL_self]; rfl
theorem less_trans {a b c : ByteArray} (h1 : lessB a b = true) (h2 : lessB b c = true) : lessB a c = true := by
  unfold lessB at *; exact decide_eq_true (cmpL_trans _ _ _ (of_decide_eq_true h1) (of_decide_eq_true h2))
theorem less_tri {a b : ByteArray} (h1 : lessB a b = false) (h2 : a ≠ b) : lessB b a = true := by
  unfold lessB cmpB at *
  have h3 := of_decide_eq_false h1
  have h4 : Lib.compareBytes a.data.toList b.data.toList ≠ 0 := fun h => h2 (ByteArray.ext (Array.toList_inj.1 (cmpL_eq0 _ _ h)))
  exact decide_eq_true (by rw [cmpL_anti]; omega)
/-- Keys in order, each above the one before. -/
def Asc (ks : List ByteArray) : Prop := ∀ i j (hi : i < ks.length) (hj : j < ks.length), i < j → lessB ks[i] ks[j] = true
theorem asc_of_ok {ks : List ByteArray} (h : keysOk ks = true) : Asc ks ∧ ∀ s ∈ ks, chk s < 0 := by
  unfold keysOk at h
  rw [List.all_eq_true] at h
  have h1 : ∀ i (hi : i < ks.length), chk ks[i] < 0 ∧ (0 < i → lessB (ks.getD (i - 1) ⟨#[]⟩) ks[i] = true) := fun i hi => by
    have := h i (List.mem_range.2 hi)
    unfold okKey at this
    rw [getD_at hi, Bool.and_eq_true, Bool.or_eq_true] at this
    refine ⟨of_decide_eq_true this.1, fun h0 => ?_⟩
    rcases this.2 with h2 | h2
    · have := of_decide_eq_true h2; omega
    · exact h2
  refine ⟨fun i j hi hj hij => ?_, fun s hs => by obtain ⟨i, hi, rfl⟩ := List.getElem_of_mem hs; exact (h1 i hi).1⟩
  have step : ∀ d, ∀ j (hj : j < ks.length), j = i + 1 + d → lessB ks[i] ks[j] = true := by
    intro d
    induction d with
    | zero =>
      intro j hj e
      have := (h1 j hj).2 (by omega)
      rw [getD_at (by omega)] at this
      have e2 : j - 1 = i := by omega
      simpa [e2] using this
    | succ d ih =>
      intro j hj e
      have h2 := (h1 j hj).2 (by omega)
      rw [getD_at (by omega)] at h2
      exact less_trans (ih (j - 1) (by omega) (by omega)) h2
  exact step (j - i - 1) j hj (by omega)
theorem ok_of_asc {ks : List ByteArray} (h : Asc ks) (hc : ∀ s ∈ ks, chk s < 0) : keysOk ks = true := by
  unfold keysOk
  rw [List.all_eq_true]
  intro i hi
  have hi := List.mem_range.1 hi
  unfold okKey
  rw [getD_at hi, decide_eq_true (hc _ (List.getElem_mem hi))]
  by_cases h0 : i = 0
  · simp [h0]
  · rw [getD_at (by omega)]
    have := h (i - 1) i (by omega) hi (by omega)
    unfold lessB at this
    simp [this]
theorem asc_ne {ks : List ByteArray} (h : Asc ks) {i j : Nat} (hi : i < ks.length) (hj : j < ks.length) (e : ks[i] = ks[j]) : i = j := by
  rcases Nat.lt_trichotomy i j with h1 | h1 | h1
  · have := h i j hi hj h1; rw [e, less_irr] at this; cases this
  · exact h1
  · have := h j i hj hi h1; rw [e, less_irr] at this; cases this
theorem keyIdx_asc {ks : List ByteArray} (h : Asc ks) {i : Nat} (hi : i < ks.length) : keyIdx ks ks[i] = some i :=
  keyIdx_at hi (by simp) fun j hj hji => by
    by_cases e : ks[i].toList = ks[j].toList
    · have := asc_ne h hj hi (bytes_ext e).symm; omega
    · simpa using e
theorem keyIdx_out {ks : List ByteArray} {s : ByteArray} (h : s ∉ ks) : keyIdx ks s = none := by
  unfold keyIdx
  rw [List.findIdx?_eq_none_iff]
  intro x hx
  by_cases e : s.toList = x.toList
  · exact absurd (bytes_ext e ▸ hx) h
  · simpa using e
theorem keyIdx_not {ks : List ByteArray} {s : ByteArray} (h : keyIdx ks s = none) : s ∉ ks := fun hm => by
  unfold keyIdx at h
  rw [List.findIdx?_eq_none_iff] at h
  have := h s hm
  simp at this
end Go.Proofs.Ytopaddebalfoeaa
