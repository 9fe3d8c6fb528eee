/- Objects: what With, Get and Without do to each other. -/
import Derived.Test.YtopaddebalfoeaaP2
namespace Go.Proofs.Ytopaddebalfoeaa
open Go Go.RowKit Go.Eng
set_option linter.unusedSimpArgs false
set_option linter.unusedVariables false
set_option maxRecDepth 100000
section
variable {n : Int} {t : ByteArray} {ks : List ByteArray} {vs : List V}
theorem pl_five (hl : ks.length = vs.length) (key : ByteArray) : pl (.mk 5 n t ks vs) key = keyIdx ks key := by
  unfold pl
  rw [vk, if_pos rfl, vks, vvs]
  cases h : keyIdx ks key with
  | none => rfl
  | some i =>
    have := keyIdx_lt h
    simp only
    rw [if_pos (by omega)]
theorem cut_five (hl : ks.length = vs.length) : cutV (.mk 5 n t ks vs) = .mk 5 n t ks vs := by
  rw [cutV_eq]
  simp only [vk, vn, vt, vks, vvs]
  rw [hl, Nat.min_self, ← hl, List.take_length, hl, List.take_length]
theorem with_some (hl : ks.length = vs.length) {key : ByteArray} {i : Nat} (h : keyIdx ks key = some i) (y : V) : withV (.mk 5 n t ks vs) key y = .mk 5 n t ks (vs.set i y) := by
  have e : objV (.mk 5 n t ks vs) = .mk 5 n t ks vs := rfl
  unfold withV
  rw [e, pl_five hl, h, cut_five hl]
  rfl
theorem with_none (hl : ks.length = vs.length) {key : ByteArray} (h : keyIdx ks key = none) (y : V) : withV (.mk 5 n t ks vs) key y = .mk 5 n t (insAt ks (insAtPos ks key) key) (insAt vs (insAtPos ks key) y) := by
  have e : objV (.mk 5 n t ks vs) = .mk 5 n t ks vs := rfl
  unfold withV
  rw [e, pl_five hl, h, cut_five hl]
  rfl
theorem get_some (hl : ks.length = vs.length) {key : ByteArray} {i : Nat} (h : keyIdx ks key = some i) : getV (.mk 5 n t ks vs) key = (vs.getD i zeroV, true) := by
  unfold getV; rw [pl_five hl, h]; rfl
theorem get_none (hl : ks.length = vs.length) {key : ByteArray} (h : keyIdx ks key = none) : getV (.mk 5 n t ks vs) key = (zeroV, false) := by
  unfold getV; rw [pl_five hl, h]
theorem wo_some (hl : ks.length = vs.length) {key : ByteArray} {i : Nat} (h : keyIdx ks key = some i) : withoutV (.mk 5 n t ks vs) key = .mk 5 n t (cutAt ks i) (cutAt vs i) := by
  unfold withoutV; rw [pl_five hl, h, cut_five hl]; rfl
theorem wo_none (hl : ks.length = vs.length) {key : ByteArray} (h : keyIdx ks key = none) : withoutV (.mk 5 n t ks vs) key = .mk 5 n t ks vs := by
  unfold withoutV; rw [pl_five hl, h]
theorem key_at {key : ByteArray} {i : Nat} (h : keyIdx ks key = some i) (hi : i < ks.length) : ks[i] = key := by
  have := keyIdx_eq h
  rw [List.getElem?_eq_getElem hi] at this
  exact Option.some.inj this
theorem key_ins (ha : Asc ks) {key : ByteArray} (h : keyIdx ks key = none) : keyIdx (insAt ks (insAtPos ks key) key) key = some (insAtPos ks key) := by
  have hp := insAtPos_le ks key
  have hlen := insAt_len ks (insAtPos ks key) key hp
  have hi : insAtPos ks key < (insAt ks (insAtPos ks key) key).length := by omega
  have e : (insAt ks (insAtPos ks key) key)[insAtPos ks key] = key := by
    rw [← getD_at (z := ⟨#[]⟩) hi, insAt_getD _ _ _ _ hp, if_neg (by omega), if_pos rfl]
  have := keyIdx_asc (asc_ins ha (keyIdx_not h)) hi
  rw [e] at this; exact this
/-- What is put in is there. -/
theorem get_with (hl : ks.length = vs.length) (ha : Asc ks) (key : ByteArray) (y : V) : getV (withV (.mk 5 n t ks vs) key y) key = (y, true) := by
  cases h : keyIdx ks key with
  | some i =>
    have hi := keyIdx_lt h
    rw [with_some hl h, get_some (by rw [List.length_set]; exact hl) h, getD_at (by rw [List.length_set]; omega), List.getElem_set_self]
  | none =>
    have hp := insAtPos_le ks key
    rw [with_none hl h, get_some (by rw [insAt_len _ _ _ hp, insAt_len _ _ _ (by omega)]; omega) (key_ins ha h), insAt_getD _ _ _ _ (by omega), if_neg (by omega), if_pos rfl]
/-- All else stays. -/
theorem get_other (hl : ks.length = vs.length) (ha : Asc ks) (key other : ByteArray) (hne : other ≠ key) (y : V) : getV (withV (.mk 5 n t ks vs) key y) other = getV (.mk 5 n t ks vs) other := by
  cases h : keyIdx ks key with
  | some i =>
    have hi := keyIdx_lt h
    rw [with_some hl h]
    cases ho : keyIdx ks other with
    | none => rw [get_none (by rw [List.length_set]; exact hl) ho, get_none hl ho]
    | some j =>
      have hj := keyIdx_lt ho
      have hij : i ≠ j := fun e => by
        subst e
        exact hne ((key_at ho hj).symm.trans (key_at h hi))
      rw [get_some (by rw [List.length_set]; exact hl) ho, get_some hl ho, getD_at (by rw [List.length_set]; omega), List.getElem_set_ne hij, getD_at (by omega)]
  | none =>
    have hp := insAtPos_le ks key
    have hl2 : (insAt ks (insAtPos ks key) key).length = (insAt vs (insAtPos ks key) y).length := by rw [insAt_len _ _ _ hp, insAt_len _ _ _ (by omega)]; omega
    have hasc := asc_ins ha (keyIdx_not h)
    rw [with_none hl h]
    cases ho : keyIdx ks other with
    | none =>
      have : keyIdx (insAt ks (insAtPos ks key) key) other = none := keyIdx_out fun hm => by
        rcases insAt_mem hm with h1 | h1
        · exact keyIdx_not ho h1
        · exact hne h1
      rw [get_none hl2 this, get_none hl ho]
    | some j =>
      have hj := keyIdx_lt ho
      have hkj := key_at ho hj
      generalize insAtPos ks key = p at *
      have hlen := insAt_len ks p key hp
      have hi : (if j < p then j else j + 1) < (insAt ks p key).length := by split <;> omega
      have e : (insAt ks p key)[if j < p then j else j + 1] = other := by
        rw [← getD_at (z := ⟨#[]⟩) hi, insAt_getD _ _ _ _ hp]
        by_cases h1 : j < p
        · rw [if_pos h1, if_pos h1, getD_at hj]; exact hkj
        · rw [if_neg h1, if_neg (by omega), if_neg (by omega), Nat.add_sub_cancel, getD_at hj]; exact hkj
      have hk := keyIdx_asc hasc hi
      rw [e] at hk
      rw [get_some hl2 hk, get_some hl ho, insAt_getD _ _ _ _ (by omega)]
      congr 1
      by_cases h1 : j < p
      · rw [if_pos h1, if_pos h1]
      · rw [if_neg h1, if_neg (by omega), if_neg (by omega), Nat.add_sub_cancel]
/-- Taken out, it is as if it had not been put in. -/
theorem wo_with (hl : ks.length = vs.length) (ha : Asc ks) (key : ByteArray) (y : V) : withoutV (withV (.mk 5 n t ks vs) key y) key = withoutV (.mk 5 n t ks vs) key := by
  cases h : keyIdx ks key with
  | some i => rw [with_some hl h, wo_some (by rw [List.length_set]; exact hl) h, wo_some hl h, cut_set]
  | none =>
    have hp := insAtPos_le ks key
    rw [with_none hl h, wo_some (by rw [insAt_len _ _ _ hp, insAt_len _ _ _ (by omega)]; omega) (key_ins ha h), wo_none hl h, cut_ins _ _ _ hp, cut_ins _ _ _ (by omega)]
/-- Put in twice. -/
theorem with_with (hl : ks.length = vs.length) (ha : Asc ks) (key : ByteArray) (y : V) : withV (withV (.mk 5 n t ks vs) key y) key y = withV (.mk 5 n t ks vs) key y := by
  cases h : keyIdx ks key with
  | some i => rw [with_some hl h, with_some (by rw [List.length_set]; exact hl) h, List.set_set]
  | none =>
    have hp := insAtPos_le ks key
    rw [with_none hl h, with_some (by rw [insAt_len _ _ _ hp, insAt_len _ _ _ (by omega)]; omega) (key_ins ha h), set_ins _ _ _ (by omega)]
/-- An object without the key: of its form. -/
theorem wo_form (hl : ks.length = vs.length) (ha : Asc ks) (key : ByteArray) : ∃ ks' vs', withoutV (.mk 5 n t ks vs) key = .mk 5 n t ks' vs' ∧ ks'.length = vs'.length ∧ Asc ks' ∧ keyIdx ks' key = none ∧ (∀ s ∈ ks', s ∈ ks) ∧ ∀ v ∈ vs', v ∈ vs := by
  cases h : keyIdx ks key with
  | some i =>
    have hi := keyIdx_lt h
    obtain ⟨h1, h2⟩ := asc_cut ha i
    refine ⟨_, _, wo_some hl h, by rw [cutAt_len hi, cutAt_len (by omega)]; omega, h1, keyIdx_out ?_, h2, fun v hv => ?_⟩
    · have := not_in_cut ha hi
      rw [key_at h hi] at this; exact this
    · unfold cutAt at hv
      rcases List.mem_append.1 hv with h | h
      · exact List.mem_of_mem_take h
      · exact List.mem_of_mem_drop h
  | none => exact ⟨_, _, wo_none hl h, hl, ha, h, fun _ h => h, fun _ h => h⟩
/-- An object with the key: of its form. -/
theorem with_form (hl : ks.length = vs.length) (ha : Asc ks) (key : ByteArray) (y : V) : ∃ ks' vs', withV (.mk 5 n t ks vs) key y = .mk 5 n t ks' vs' ∧ ks'.length = vs'.length ∧ Asc ks' ∧ (∀ s ∈ ks', s ∈ ks ∨ s = key) ∧ ∀ v ∈ vs', v ∈ vs ∨ v = y := by
  cases h : keyIdx ks key with
  | some i => exact ⟨_, _, with_some hl h y, by rw [List.length_set]; exact hl, ha, fun _ h => .inl h, fun v hv => List.mem_or_eq_of_mem_set hv⟩
  | none =>
    have hp := insAtPos_le ks key
    exact ⟨_, _, with_none hl h y, by rw [insAt_len _ _ _ hp, insAt_len _ _ _ (by omega)]; omega, asc_ins ha (keyIdx_not h), fun s hs => insAt_mem hs, fun v hv => insAt_mem hv⟩
theorem right_obj : rightV (.mk 5 n t ks vs) = true ↔ (n = 0 ∧ textOk 5 t = true ∧ keysOk ks = true ∧ ks.length = vs.length ∧ rightsV vs = true) := by
  rw [rightV_def, numberV_eq, keyedV_obj rfl, if_neg (by decide), if_neg (by decide)]
  have e : (decide ((5 : Int) < 4)) = false := by decide
  rw [e]
  simp [Bool.and_eq_true]
  constructor
  · rintro ⟨⟨⟨h1, h2, h3⟩, h4⟩, h5⟩; exact ⟨h1, h4, h2, by omega, h5⟩
  · rintro ⟨h1, h4, h2, h3, h5⟩; exact ⟨⟨⟨h1, h2, by omega⟩, h4⟩, h5⟩
end
end Go.Proofs.Ytopaddebalfoeaa
