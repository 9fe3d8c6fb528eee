/- Objects with sorted keys: put in, taken out. -/
import Derived.Test.YtopaddebalfoeaaP1
namespace Go.Proofs.Ytopaddebalfoeaa
open Go Go.RowKit Go.Eng
set_option linter.unusedSimpArgs false
set_option linter.unusedVariables false
set_option maxRecDepth 100000
theorem insAtPos_is (ks : List ByteArray) (key : ByteArray) : (∀ j (h : j < ks.length), j < insAtPos ks key → lessB ks[j] key = true) ∧ (∀ h : insAtPos ks key < ks.length, lessB ks[insAtPos ks key] key = false) := by
  cases h : ks.findIdx? (fun k => !(lessB k key)) with
  | none =>
    have e : insAtPos ks key = ks.length := by unfold insAtPos insPos; rw [h]; rfl
    rw [e]
    rw [List.findIdx?_eq_none_iff] at h
    refine ⟨fun j hj _ => ?_, fun h => absurd h (by omega)⟩
    have := h _ (List.getElem_mem hj)
    simpa using this
  | some i =>
    have e : insAtPos ks key = i := by
      unfold insAtPos insPos; rw [h]
      show (if (i : Int) < 0 then _ else (i : Int).toNat) = i
      rw [if_neg (by omega)]; rfl
    obtain ⟨h1, h2, h3⟩ := List.findIdx?_eq_some_iff_getElem.1 h
    refine ⟨fun j hj hji => ?_, fun h => ?_⟩
    · have := h3 j (by omega)
      simpa using this
    · simp only [e]
      simpa using h2
theorem insAt_getD {α : Type} (l : List α) (p : Nat) (x z : α) (hp : p ≤ l.length) (k : Nat) : (insAt l p x).getD k z = if k < p then l.getD k z else if k = p then x else l.getD (k - 1) z := by
  unfold insAt
  simp only [List.getD]
  by_cases h1 : k < p
  · rw [if_pos h1, List.getElem?_append_left (by rw [List.length_take]; omega), List.getElem?_take, if_pos h1]
  · rw [if_neg h1, List.getElem?_append_right (by rw [List.length_take]; omega), List.length_take, Nat.min_eq_left hp]
    by_cases h2 : k = p
    · rw [if_pos h2, h2, Nat.sub_self]; rfl
    · rw [if_neg h2]
      obtain ⟨d, rfl⟩ : ∃ d, k = p + 1 + d := ⟨k - p - 1, by omega⟩
      rw [show p + 1 + d - p = d + 1 from by omega, List.getElem?_cons_succ, List.getElem?_drop, show p + 1 + d - 1 = p + d from by omega]
theorem asc_D {ks : List ByteArray} (h : Asc ks) {i j : Nat} (hij : i < j) (hj : j < ks.length) : lessB (ks.getD i ⟨#[]⟩) (ks.getD j ⟨#[]⟩) = true := by
  rw [getD_at (by omega), getD_at hj]; exact h i j (by omega) hj hij
theorem asc_ins {ks : List ByteArray} (h : Asc ks) {key : ByteArray} (hn : key ∉ ks) : Asc (insAt ks (insAtPos ks key) key) := by
  obtain ⟨p1, p2⟩ := insAtPos_is ks key
  have hp := insAtPos_le ks key
  generalize insAtPos ks key = p at *
  have hlen := insAt_len ks p key hp
  have up : ∀ m, p ≤ m → m < ks.length → lessB key (ks.getD m ⟨#[]⟩) = true := fun m h1 h2 => by
    have h3 : lessB key (ks[p]'(by omega)) = true := less_tri (p2 (by omega)) (fun e => hn (e ▸ List.getElem_mem _))
    by_cases e : m = p
    · subst e; rw [getD_at h2]; exact h3
    · rw [getD_at h2]; exact less_trans h3 (h p m (by omega) h2 (by omega))
  intro i j hi hj hij
  rw [← getD_at (z := ⟨#[]⟩) hi, ← getD_at (z := ⟨#[]⟩) hj, insAt_getD _ _ _ _ hp, insAt_getD _ _ _ _ hp]
  by_cases a1 : i < p
  · rw [if_pos a1]
    by_cases b1 : j < p
    · rw [if_pos b1]; exact asc_D h hij (by omega)
    · rw [if_neg b1]
      by_cases b2 : j = p
      · rw [if_pos b2, getD_at (by omega)]; exact p1 i _ a1
      · rw [if_neg b2]; exact asc_D h (by omega) (by omega)
  · rw [if_neg a1, if_neg (by omega : ¬ j < p), if_neg (by omega : ¬ j = p)]
    by_cases a2 : i = p
    · rw [if_pos a2]; exact up _ (by omega) (by omega)
    · rw [if_neg a2]; exact asc_D h (by omega) (by omega)
theorem mem_insAt {α : Type} {l : List α} {p : Nat} {a b : α} : b ∈ insAt l p a ↔ b ∈ l ∨ b = a := by
  refine ⟨insAt_mem, fun h => ?_⟩
  unfold insAt
  rcases h with h | h
  · rw [← List.take_append_drop p l] at h
    rcases List.mem_append.1 h with h | h
    · exact List.mem_append_left _ h
    · exact List.mem_append_right _ (List.mem_cons_of_mem _ h)
  · subst h; simp
theorem cut_ins {α : Type} (l : List α) (p : Nat) (x : α) (hp : p ≤ l.length) : cutAt (insAt l p x) p = l := by
  unfold cutAt insAt
  rw [List.take_append_of_le_length (by rw [List.length_take]; omega), List.take_take, Nat.min_self, List.drop_append, List.length_take, Nat.min_eq_left hp, List.drop_eq_nil_of_le (by rw [List.length_take]; omega), show p + 1 - p = 1 from by omega]
  simp
theorem cut_set {α : Type} (l : List α) (i : Nat) (x : α) : cutAt (l.set i x) i = cutAt l i := by
  unfold cutAt
  rw [List.take_set_of_le (Nat.le_refl _), List.drop_set_of_lt (by omega)]
theorem set_ins {α : Type} (l : List α) (p : Nat) (x : α) (hp : p ≤ l.length) : (insAt l p x).set p x = insAt l p x := by
  unfold insAt
  rw [List.set_append_right _ _ (by rw [List.length_take]; omega), List.length_take, Nat.min_eq_left hp, Nat.sub_self]
  rfl
theorem asc_cut {ks : List ByteArray} (h : Asc ks) (i : Nat) : Asc (cutAt ks i) ∧ ∀ s ∈ cutAt ks i, s ∈ ks := by
  have hm : ∀ s ∈ cutAt ks i, s ∈ ks := fun s hs => by
    unfold cutAt at hs
    rcases List.mem_append.1 hs with h | h
    · exact List.mem_of_mem_take h
    · exact List.mem_of_mem_drop h
  refine ⟨fun a b ha hb hab => ?_, hm⟩
  by_cases hi : i < ks.length
  · have hl := cutAt_len hi
    have e : ∀ k (hk : k < (cutAt ks i).length), (cutAt ks i)[k] = ks.getD (if k < i then k else k + 1) ⟨#[]⟩ := fun k hk => by
      rw [← getD_at (z := ⟨#[]⟩) hk]
      unfold cutAt
      simp only [List.getD]
      by_cases h1 : k < i
      · rw [if_pos h1, List.getElem?_append_left (by rw [List.length_take]; omega), List.getElem?_take, if_pos h1]
      · rw [if_neg h1, List.getElem?_append_right (by rw [List.length_take]; omega), List.length_take, Nat.min_eq_left (by omega), List.getElem?_drop, show i + 1 + (k - i) = k + 1 from by omega]
    rw [e a ha, e b hb]
    refine asc_D h ?_ ?_
    · split <;> split <;> omega
    · split <;> omega
  · have e : cutAt ks i = ks := by unfold cutAt; rw [List.take_of_length_le (by omega), List.drop_eq_nil_of_le (by omega), List.append_nil]
    simp only [e] at ha hb ⊢
    exact h a b ha hb hab
theorem not_in_cut {ks : List ByteArray} (h : Asc ks) {i : Nat} (hi : i < ks.length) : ks[i] ∉ cutAt ks i := fun hm => by
  unfold cutAt at hm
  rcases List.mem_append.1 hm with h1 | h1
  · obtain ⟨j, hj, e⟩ := List.getElem_of_mem h1
    rw [List.length_take] at hj
    rw [List.getElem_take] at e
    have := asc_ne h (by omega) hi e; omega
  · obtain ⟨j, hj, e⟩ := List.getElem_of_mem h1
    rw [List.length_drop] at hj
    rw [List.getElem_drop] at e
    have := asc_ne h (by omega) hi e; omega
end Go.Proofs.Ytopaddebalfoeaa
