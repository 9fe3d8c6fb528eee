/- Samples: values out of choices. -/
import Derived.Test.YtopaddebalfoeaaS1
namespace Go.Proofs.Ytopaddebalfoeaa
open Go Go.RowKit Go.Eng
set_option linter.unusedSimpArgs false
set_option linter.unusedVariables false
set_option maxRecDepth 100000
def keyL : List ByteArray := [⟨#[97]⟩, ⟨#[98]⟩, ⟨#[109, 101, 109, 98, 101, 114, 115, 104, 105, 112]⟩, ⟨#[117, 115, 101, 114, 115]⟩, ⟨#[195, 169]⟩, ⟨#[101, 118, 101, 110, 116, 115]⟩, ⟨#[120]⟩, ⟨#[116, 121, 112, 101]⟩]
theorem keyL_le : ∀ s ∈ keyL, s.size ≤ 4000000 := by decide
def keyI (b1 : Int) (q : Nat) : Nat := ((b1.tdiv 4 + 3 * (q : Int)).tmod 8).toNat
/-- An object out of values. -/
def objF (b1 : Int) (kids : List V) : Nat → V
  | 0 => .mk 5 0 ⟨#[]⟩ [] []
  | q + 1 => withV (objF b1 kids q) (keyL.getD (keyI b1 q) ⟨#[]⟩) (kids.getD q zeroV)
def takeK (b1 : Int) (l : List V) : Nat := min (b1.tmod 4).toNat l.length
def kidsV (b1 : Int) (l : List V) : List V := l.drop (l.length - takeK b1 l)
/-- How many values stay, and the next one. -/
def swV (b0 b1 : Int) (t : ByteArray) (l : List V) : Nat × V :=
  if b0.tmod 12 = 0 then (l.length, .mk 1 (b1.tmod 2) ⟨#[]⟩ [] [])
  else if b0.tmod 12 = 1 ∨ b0.tmod 12 = 2 ∨ b0.tmod 12 = 3 then (l.length, numV (b1 - 100))
  else if b0.tmod 12 = 4 then (l.length, numV (9007199254740991 - b1.tmod 2))
  else if b0.tmod 12 = 5 ∨ b0.tmod 12 = 6 then (l.length, strV (if 0 ≤ chk t then ⟨#[122]⟩ else t))
  else if b0.tmod 12 = 7 then (l.length - takeK b1 l, .mk 4 0 ⟨#[]⟩ [] (kidsV b1 l))
  else if b0.tmod 12 = 8 ∨ b0.tmod 12 = 9 ∨ b0.tmod 12 = 10 then (l.length - takeK b1 l, objF b1 (kidsV b1 l) (kidsV b1 l).length)
  else (l.length, zeroV)
def stepV (c : List Int) (j : Nat) (l : List V) : List V :=
  l.take (swV (c.getD j 0) (c.getD (j + 1) 0) (textOf ((c.take (min c.length (j + 3))).drop j)) l).1 ++ [(swV (c.getD j 0) (c.getD (j + 1) 0) (textOf ((c.take (min c.length (j + 3))).drop j)) l).2]
def valL (c : List Int) : Nat → List V
  | 0 => []
  | n + 1 => stepV c (2 * n) (valL c n)
def valOf (c : List Int) : V := .mk 4 0 ⟨#[]⟩ [] (valL c (min (c.length / 2) 30))
theorem insAt_mem {α : Type} {l : List α} {i : Nat} {a b : α} (h : b ∈ insAt l i a) : b ∈ l ∨ b = a := by
  unfold insAt at h
  rcases List.mem_append.1 h with h | h
  · exact .inl (List.mem_of_mem_take h)
  · rcases List.mem_cons.1 h with h | h
    · exact .inr h
    · exact .inl (List.mem_of_mem_drop h)
theorem withV_keys {x : V} {key : ByteArray} {y : V} {s : ByteArray} (h : s ∈ (withV x key y).ks) : s ∈ (objV x).ks ∨ s = key := by
  unfold withV at h
  split at h
  · rw [vks] at h; exact .inl (List.mem_of_mem_take h)
  · rw [vks] at h
    rcases insAt_mem h with h | h
    · exact .inl (List.mem_of_mem_take h)
    · exact .inr h
theorem withV_vals {x : V} {key : ByteArray} {y v : V} (h : v ∈ (withV x key y).vs) : v ∈ (objV x).vs ∨ v = y := by
  unfold withV at h
  split at h
  · rw [vvs] at h
    rcases List.mem_or_eq_of_mem_set h with h | h
    · exact .inl (List.mem_of_mem_take h)
    · exact .inr h
  · rw [vvs] at h
    rcases insAt_mem h with h | h
    · exact .inl (List.mem_of_mem_take h)
    · exact .inr h
theorem withV_lens (x : V) (key : ByteArray) (y : V) : (withV x key y).ks.length ≤ (objV x).ks.length + 1 ∧ (withV x key y).vs.length ≤ (objV x).vs.length + 1 ∧ (withV x key y).k = 5 := by
  have hk : (objV x).k = 5 := by unfold objV; split <;> first | assumption | rfl
  have hc : (cutV (objV x)).ks.length ≤ (objV x).ks.length ∧ (cutV (objV x)).vs.length ≤ (objV x).vs.length := by simp only [cutV, vks, vvs, List.length_take]; omega
  have h1 := insAtPos_le (cutV (objV x)).ks key
  unfold withV
  split
  · simp only [vks, vvs, vk, List.length_set]; omega
  · simp only [vks, vvs, vk]
    rw [insAt_len _ _ _ h1, insAt_len _ _ _ (by rw [← cut_lens]; exact h1)]; omega
theorem Fits.of {x : V} (h1 : x.ks.length ≤ 1000000) (h2 : x.vs.length ≤ 1000000) (h : ∀ y ∈ x.vs, Fits y) : Fits x := by
  obtain ⟨k, n, t, ks, vs⟩ := x
  exact .mk k n t ks vs h1 h2 h
theorem objF_ok (b1 : Int) (kids : List V) (hk : ∀ x ∈ kids, Fits x) : ∀ q, (objF b1 kids q).k = 5 ∧ (objF b1 kids q).ks.length ≤ q ∧ (objF b1 kids q).vs.length ≤ q ∧ (∀ s ∈ (objF b1 kids q).ks, s.size ≤ 4000000) ∧ (∀ v ∈ (objF b1 kids q).vs, Fits v)
  | 0 => ⟨rfl, Nat.le_refl _, Nat.le_refl _, (by intro s h; cases h), (by intro v h; cases h)⟩
  | q + 1 => by
    obtain ⟨h0, h1, h2, h3, h4⟩ := objF_ok b1 kids hk q
    have e : objV (objF b1 kids q) = objF b1 kids q := by unfold objV; rw [if_pos h0]
    obtain ⟨w1, w2, w3⟩ := withV_lens (objF b1 kids q) (keyL.getD (keyI b1 q) ⟨#[]⟩) (kids.getD q zeroV)
    rw [e] at w1 w2
    refine ⟨w3, by show (withV _ _ _).ks.length ≤ _; omega, by show (withV _ _ _).vs.length ≤ _; omega, fun s hs => ?_, fun v hv => ?_⟩
    · rcases withV_keys hs with h | h
      · rw [e] at h; exact h3 s h
      · subst h
        by_cases hi : keyI b1 q < keyL.length
        · exact keyL_le _ (getD_mem hi)
        · simp only [List.getD, List.getElem?_eq_none (Nat.le_of_not_lt hi)]; decide
    · rcases withV_vals hv with h | h
      · rw [e] at h; exact h4 v h
      · subst h
        by_cases hi : q < kids.length
        · exact hk _ (getD_mem hi)
        · simp only [List.getD, List.getElem?_eq_none (Nat.le_of_not_lt hi)]; exact .mk _ _ _ _ _ (by decide) (by decide) (by simp)
theorem objF_fits (b1 : Int) (kids : List V) (hk : ∀ x ∈ kids, Fits x) (q : Nat) (hq : q ≤ 1000000) : Fits (objF b1 kids q) := by
  obtain ⟨_, h1, h2, _, h4⟩ := objF_ok b1 kids hk q
  exact Fits.of (by omega) (by omega) h4
theorem fits_zero : Fits zeroV := .mk _ _ _ _ _ (by decide) (by decide) (by simp)
theorem fits_leaf (k n : Int) (t : ByteArray) : Fits (.mk k n t [] []) := .mk _ _ _ _ _ (by simp) (by simp) (by simp)
theorem swV_fits (b0 b1 : Int) (t : ByteArray) (l : List V) (hl : l.length ≤ 1000) (h : ∀ x ∈ l, Fits x) : Fits (swV b0 b1 t l).2 ∧ (swV b0 b1 t l).1 ≤ l.length := by
  have hk : ∀ x ∈ kidsV b1 l, Fits x := fun x hx => h x (List.mem_of_mem_drop hx)
  have hkl : (kidsV b1 l).length ≤ l.length := by unfold kidsV; rw [List.length_drop]; omega
  unfold swV
  repeat' split
  · exact ⟨fits_leaf _ _ _, Nat.le_refl _⟩
  · exact ⟨fits_leaf _ _ _, Nat.le_refl _⟩
  · exact ⟨fits_leaf _ _ _, Nat.le_refl _⟩
  · exact ⟨fits_leaf _ _ _, Nat.le_refl _⟩
  · exact ⟨fits_leaf _ _ _, Nat.le_refl _⟩
  · exact ⟨.mk _ _ _ _ _ (by simp) (by omega) hk, Nat.sub_le _ _⟩
  · exact ⟨objF_fits _ _ hk _ (by omega), Nat.sub_le _ _⟩
  · exact ⟨fits_zero, Nat.le_refl _⟩
theorem valL_ok (c : List Int) : ∀ n, n ≤ 100 → (valL c n).length ≤ n ∧ ∀ x ∈ valL c n, Fits x
  | 0, _ => ⟨Nat.le_refl _, (by intro x h; cases h)⟩
  | n + 1, hn => by
    obtain ⟨h1, h2⟩ := valL_ok c n (by omega)
    have h3 := swV_fits (c.getD (2 * n) 0) (c.getD (2 * n + 1) 0) (textOf ((c.take (min c.length (2 * n + 3))).drop (2 * n))) (valL c n) (by omega) h2
    refine ⟨?_, fun x hx => ?_⟩
    · show (stepV c (2 * n) (valL c n)).length ≤ _
      unfold stepV
      rw [List.length_append, List.length_take]; simp only [List.length_singleton]; omega
    · rcases List.mem_append.1 hx with h | h
      · exact h2 x (List.mem_of_mem_take h)
      · rw [List.mem_singleton.1 h]; exact h3.1
end Go.Proofs.Ytopaddebalfoeaa
