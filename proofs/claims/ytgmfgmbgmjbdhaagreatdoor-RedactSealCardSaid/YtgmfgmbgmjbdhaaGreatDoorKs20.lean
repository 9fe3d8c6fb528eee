/- The two readings of runes are one. · The document's answers of layer 2: what they compute. · Quoted texts: the program's and the document's answer's. -/
import Derived.Test.YtgmfgmbgmjbdhaaGreatDoorKs19
import Derived.Test.YtgmfgmbgmjbdhaaGreatDoorKs17
import Derived.Test.YtgmfgmbgmjbdhaaGreatDoorKs15
section
namespace Go.Proofs.YtgmfgmbgmjbdhaaGreatDoor
open Go Go.RowKit Go.Eng
set_option maxRecDepth 100000
set_option linter.unusedSimpArgs false
set_option linter.unusedVariables false
def chkRF (s : ByteArray) : Nat → Nat → Int
  | 0, _ => -1
  | f + 1, pos => if pos < s.size then (if oneV (s.extract pos s.size) = 0 then (pos : Int) else chkRF s f (pos + (oneV (s.extract pos s.size)).toNat)) else -1
def chkR (s : ByteArray) : Int := chkRF s (s.size + 1) 0
theorem oneN_bd (s : ByteArray) (n : Nat) (l r0 : Int) : 0 ≤ oneN s n l r0 ∧ oneN s n l r0 ≤ n + 1 := by
  unfold oneN; repeat' split
  all_goals omega
theorem oneV_bd (s : ByteArray) : 0 ≤ oneV s ∧ oneV s ≤ s.size := by
  unfold oneV
  by_cases h0 : s.size = 0
  · rw [if_pos h0]; omega
  · rw [if_neg h0]
    have b0 := oneN_bd s 0 0 (bt s 0)
    have b1 := oneN_bd s 1 128 ((bt s 0 : Int).tmod 32)
    have b2 := oneN_bd s 2 2048 ((bt s 0 : Int).tmod 16)
    have b3 := oneN_bd s 3 65536 ((bt s 0 : Int).tmod 8)
    have hm := moreN_le (bt s 0)
    repeat' split
    all_goals omega
theorem checkR_spec (s : ByteArray) (hs : s.size ≤ 4000000) (H : Hp) : ACall Tryz.prog 58 [.v (.string s)] H (IsR H (.v (.int .i64 (chkR s)))) := by
  refine UCall (n := 19) (H0 := H) (objs := []) Tryz.func58 (by kernel_rfl) rfl (by rw [Tryz.ntmps58]; rfl) .nil <| ?_
  refine Q.rg <| Q.as rfl <| Q.nt <| Q.rg <| Q.as rfl <| Q.nt <| UW.seq <| UW.block <| UW.loop (fun p : Nat × Nat => [(3, .v (.int .i64 (p.1 : Int))), (0, .v (.string s))]) (fun p => []) (fun p => p.1 ≤ s.size ∧ s.size - p.1 < p.2 ∧ chkRF s p.2 p.1 = chkR s) (fun p => p.2) (0, s.size + 1) ⟨Nat.zero_le _, by simp, rfl⟩ ⟨rfl, rfl, trivial⟩ (.refl _) <| ?_
  rintro ⟨pos, f⟩ ⟨hp, hf, hc⟩
  simp only at hp hf hc
  obtain ⟨f, rfl⟩ : ∃ f', f = f' + 1 := ⟨f - 1, by omega⟩
  refine UW.seq <| Q.rg <| Q.mv rfl <| Q.mv rfl <| US.len_str rfl (by decide) rfl rfl Tryz.underlying9 rfl <| Q.bi rfl rfl rfl <| Q.nt <| ?_
  refine UW.cond rfl (fun h => ?_) (fun h => ?_)
  · have h := of_decide_eq_true h
    have hlt : pos < s.size := by simp only at h; omega
    have hbd := oneV_bd (s.extract pos s.size)
    rw [ByteArray.size_extract] at hbd
    refine UW.skip <| UQ.then <| UW.block <| Q.rg <| Q.mv rfl <| Q.mv rfl <| US.slice_str rfl (by decide) rfl rfl Tryz.underlying9 rfl (.lo rfl) (by simp only; omega) (by omega) <| ?_
    refine US.call_pure rfl (by decide) rfl rfl rfl rfl (fun _ => one_spec _ (by rw [ByteArray.size_extract]; omega) _) <| ?_
    refine Q.as rfl <| Q.nt <| UW.seq <| Q.rg <| ?_
    by_cases h0 : oneV (s.extract pos s.size) = 0
    · refine Q.mv rfl <| US.bin_int rfl (by decide) rfl rfl rfl rfl (r := .bool true) (by (simp [iop, sop, h0]; done)) <| ?_
      refine Q.nt <| ?_
      refine UW.cond rfl (fun _ => ?_) (fun h => absurd h (by simp))
      refine Q.rg <| Q.mv rfl <| Q.as rfl <| Q.nt <| UW.ret <| UQ.passR <| UQ.blockR <| UQ.passR <| UQ.blockR <| UQ.passR <| ?_
      refine retR [] (fun _ => res_tmp rfl rfl) (.refl _) fun hd => ⟨?_, rfl⟩
      rw [← hc, chkRF, if_pos hlt, if_pos h0]
    · refine Q.mv rfl <| US.bin_int rfl (by decide) rfl rfl rfl rfl (r := .bool false) (by (simp [iop, sop, h0]; done)) <| ?_
      refine Q.nt <| UW.cond rfl (fun h => absurd h (by simp)) fun _ => ?_
      refine UW.skip <| UQ.then <| UW.region <| Q.mv rfl <| Q.mv rfl <| US.add rfl (by decide) rfl rfl rfl rfl (r := ((pos + (oneV (s.extract pos s.size)).toNat : Nat) : Int)) (Eq.trans (IntWalk.i64_in _ (by simp only; omega)) (by simp only; omega)) <| ?_
      refine Q.as rfl <| US.keep [(3, .v (.int .i64 ((pos + (oneV (s.extract pos s.size)).toNat : Nat) : Int))), (0, .v (.string s))] [] ⟨rfl, rfl, trivial⟩ (.refl _) <| US.nil <| UQ.blockN <| ?_
      exact fun hd => ⟨(pos + (oneV (s.extract pos s.size)).toNat, f), ⟨by simp only; omega, by simp only; omega, by
        simp only
        rw [← hc]
        conv => rhs; rw [chkRF, if_pos hlt, if_neg h0]⟩, by simp, hd, rfl, rfl⟩
  · have h := of_decide_eq_false h
    refine UW.exit <| UQ.pass <| UQ.pass <| UQ.here <| UQ.then <| Q.rg <| Q.as rfl <| Q.nt <| UW.ret <| ?_
    refine retR [] (fun _ => res_tmp rfl rfl) (.refl _) fun hd => ⟨?_, rfl⟩
    rw [← hc, chkRF, if_neg (by simp only at h; omega)]
theorem bt_extract (s : ByteArray) (pos k : Nat) (h : pos + k < s.size) : bt (s.extract pos s.size) k = bt s (pos + k) := by
  rw [bt_at _ k (by rw [ByteArray.size_extract]; omega), bt_at s (pos + k) h]
  congr 1
  simp [ByteArray.getElem_extract]
theorem cont_iff (b : Nat) (hb : b < 256) : (b / 64 == 2) = (decide (128 ≤ b) && decide (b ≤ 191)) := by
  rw [Bool.eq_iff_iff]
  simp only [beq_iff_eq, Bool.and_eq_true, decide_eq_true_eq]
  omega
/-- What the first rune's length is, in plain numbers. -/
def len1 (m B0 B1 B2 B3 : Nat) : Nat :=
  if B0 < 128 then 1
  else if 194 ≤ B0 ∧ B0 ≤ 223 ∧ 1 < m ∧ 128 ≤ B1 ∧ B1 ≤ 191 then 2
  else if 224 ≤ B0 ∧ B0 ≤ 239 ∧ 2 < m ∧ 128 ≤ B1 ∧ B1 ≤ 191 ∧ 128 ≤ B2 ∧ B2 ≤ 191 ∧ 2048 ≤ 64 * (64 * (B0 % 16) + B1 % 64) + B2 % 64 ∧ ¬ (55296 ≤ 64 * (64 * (B0 % 16) + B1 % 64) + B2 % 64 ∧ 64 * (64 * (B0 % 16) + B1 % 64) + B2 % 64 ≤ 57343) then 3
  else if 240 ≤ B0 ∧ B0 ≤ 244 ∧ 3 < m ∧ 128 ≤ B1 ∧ B1 ≤ 191 ∧ 128 ≤ B2 ∧ B2 ≤ 191 ∧ 128 ≤ B3 ∧ B3 ≤ 191 ∧ 65536 ≤ 64 * (64 * (64 * (B0 % 8) + B1 % 64) + B2 % 64) + B3 % 64 ∧ 64 * (64 * (64 * (B0 % 8) + B1 % 64) + B2 % 64) + B3 % 64 ≤ 1114111 then 4
  else 0
theorem oneN_1 (t : ByteArray) (l r0 : Int) : oneN t 1 l r0 = if contB t 1 = true ∧ goodR l (64 * r0 + (bt t 1 : Int).tmod 64) = true then 2 else 0 := by
  unfold oneN
  have : (List.range 1).all (fun i => contB t (i + 1)) = contB t 1 := by simp [List.range_succ]
  rw [this]
  cases h1 : contB t 1 <;> cases h2 : goodR l (rAcc t r0 1) <;> simp_all [rAcc]
theorem oneN_2 (t : ByteArray) (l r0 : Int) : oneN t 2 l r0 = if (contB t 1 = true ∧ contB t 2 = true) ∧ goodR l (64 * (64 * r0 + (bt t 1 : Int).tmod 64) + (bt t 2 : Int).tmod 64) = true then 3 else 0 := by
  unfold oneN
  have : (List.range 2).all (fun i => contB t (i + 1)) = (contB t 1 && contB t 2) := by simp [List.range_succ]
  rw [this]
  cases h1 : contB t 1 <;> cases h3 : contB t 2 <;> cases h2 : goodR l (rAcc t r0 2) <;> simp_all [rAcc]
theorem oneN_3 (t : ByteArray) (l r0 : Int) : oneN t 3 l r0 = if (contB t 1 = true ∧ contB t 2 = true ∧ contB t 3 = true) ∧ goodR l (64 * (64 * (64 * r0 + (bt t 1 : Int).tmod 64) + (bt t 2 : Int).tmod 64) + (bt t 3 : Int).tmod 64) = true then 4 else 0 := by
  unfold oneN
  have : (List.range 3).all (fun i => contB t (i + 1)) = (contB t 1 && (contB t 2 && contB t 3)) := by simp [List.range_succ, Bool.and_assoc]
  rw [this]
  cases h1 : contB t 1 <;> cases h3 : contB t 2 <;> cases h4 : contB t 3 <;> cases h2 : goodR l (rAcc t r0 3) <;> simp_all [rAcc]
theorem oneV_len1 (t : ByteArray) (h : 0 < t.size) : oneV t = (len1 t.size (bt t 0) (bt t 1) (bt t 2) (bt t 3) : Int) := by
  have b0 := bt_lt t 0
  have b1 := bt_lt t 1
  have b2 := bt_lt t 2
  have b3 := bt_lt t 3
  have e32 : (bt t 0 : Int).tmod 32 = ((bt t 0 % 32 : Nat) : Int) := rfl
  have e16 : (bt t 0 : Int).tmod 16 = ((bt t 0 % 16 : Nat) : Int) := rfl
  have e8 : (bt t 0 : Int).tmod 8 = ((bt t 0 % 8 : Nat) : Int) := rfl
  have e1 : (bt t 1 : Int).tmod 64 = ((bt t 1 % 64 : Nat) : Int) := rfl
  have e2 : (bt t 2 : Int).tmod 64 = ((bt t 2 % 64 : Nat) : Int) := rfl
  have e3 : (bt t 3 : Int).tmod 64 = ((bt t 3 % 64 : Nat) : Int) := rfl
  have e0 : oneN t 0 0 (bt t 0) = if goodR 0 (bt t 0) = true then 1 else 0 := by unfold oneN; simp [rAcc]
  have key : ∀ m : Int, moreN (bt t 0) = m → (m < 0 → len1 t.size (bt t 0) (bt t 1) (bt t 2) (bt t 3) = 0) → (0 ≤ m → (t.size : Int) ≤ m → len1 t.size (bt t 0) (bt t 1) (bt t 2) (bt t 3) = 0) →
      (m = 0 → oneN t 0 0 (bt t 0) = (len1 t.size (bt t 0) (bt t 1) (bt t 2) (bt t 3) : Int)) → (m = 1 → m < t.size → oneN t 1 128 ((bt t 0 : Int).tmod 32) = (len1 t.size (bt t 0) (bt t 1) (bt t 2) (bt t 3) : Int)) → (m = 2 → m < t.size → oneN t 2 2048 ((bt t 0 : Int).tmod 16) = (len1 t.size (bt t 0) (bt t 1) (bt t 2) (bt t 3) : Int)) →
      (m = 3 → m < t.size → oneN t 3 65536 ((bt t 0 : Int).tmod 8) = (len1 t.size (bt t 0) (bt t 1) (bt t 2) (bt t 3) : Int)) → oneV t = (len1 t.size (bt t 0) (bt t 1) (bt t 2) (bt t 3) : Int) := by
    intro m hm k1 k2 q0 q1 q2 q3
    have hm3 := moreN_le (bt t 0)
    rw [hm] at hm3
    unfold oneV
    rw [if_neg (by omega), hm]
    by_cases h1 : m < 0
    · rw [if_pos h1, k1 h1]; rfl
    · rw [if_neg h1]
      by_cases h2 : (t.size : Int) ≤ m
      · rw [if_pos h2, k2 (by omega) h2]; rfl
      · rw [if_neg h2]
        by_cases h3 : m = 0
        · rw [if_pos h3]; exact q0 h3
        · rw [if_neg h3]
          by_cases h4 : m = 1
          · rw [if_pos h4]; exact q1 h4 (by omega)
          · rw [if_neg h4]
            by_cases h5 : m = 2
            · rw [if_pos h5]; exact q2 h5 (by omega)
            · rw [if_neg h5]; exact q3 (by omega) (by omega)
  have hmore : ∀ m : Int, (if (bt t 0 : Int) < 128 then (0 : Int) else if 194 ≤ (bt t 0 : Int) ∧ (bt t 0 : Int) ≤ 223 then 1 else if 224 ≤ (bt t 0 : Int) ∧ (bt t 0 : Int) ≤ 239 then 2 else if 240 ≤ (bt t 0 : Int) ∧ (bt t 0 : Int) ≤ 244 then 3 else -1) = m → moreN (bt t 0) = m := fun m h => h
  refine key _ (hmore _ rfl) ?_ ?_ ?_ ?_ ?_ ?_
  all_goals (try rw [oneN_1]); (try rw [oneN_2]); (try rw [oneN_3]); (try rw [e0])
  all_goals (try rw [e32]); (try rw [e16]); (try rw [e8])
  all_goals (try rw [e1]); (try rw [e2]); (try rw [e3])
  all_goals unfold len1
  all_goals (try unfold goodR)
  all_goals (try unfold contB)
  all_goals generalize bt t 0 = B0 at *
  all_goals generalize bt t 1 = B1 at *
  all_goals generalize bt t 2 = B2 at *
  all_goals generalize bt t 3 = B3 at *
  all_goals generalize t.size = m at *
  all_goals (try simp only [Bool.and_eq_true, Bool.not_eq_true', Bool.and_eq_false_iff, decide_eq_true_eq, decide_eq_false_iff_not])
  all_goals clear key hmore e32 e16 e8 e1 e2 e3 e0
  · intro h1
    repeat' split at h1
    all_goals first | omega | (repeat' split) <;> omega
  · intro h1 h2
    repeat' split at h1
    all_goals first | omega | skip
    all_goals (repeat' split) <;> omega
  · intro h1
    repeat' split at h1
    all_goals first | omega | (repeat' split) <;> omega
  · intro h1 h2
    rw [h1] at h2
    repeat' split at h1
    all_goals first | omega | skip
    all_goals (repeat' split) <;> omega
  · intro h1 h2
    rw [h1] at h2
    repeat' split at h1
    all_goals first | omega | skip
    all_goals (repeat' split) <;> omega
  · intro h1 h2
    rw [h1] at h2
    repeat' split at h1
    all_goals first | omega | skip
    all_goals (repeat' split) <;> omega
theorem decode_bt (s : ByteArray) (pos : Nat) : Utf8.decode s pos =
    (if bt s pos < 128 then (bt s pos, 1)
     else if (bt s pos / 32 == 6 && (decide (pos + 1 < s.size) && bt s (pos + 1) / 64 == 2)) = true then
       (if bt s pos % 32 * 64 + bt s (pos + 1) % 64 ≥ 128 then (bt s pos % 32 * 64 + bt s (pos + 1) % 64, 2) else (65533, 1))
     else if (bt s pos / 16 == 14 && (decide (pos + 1 < s.size) && bt s (pos + 1) / 64 == 2) && (decide (pos + 2 < s.size) && bt s (pos + 2) / 64 == 2)) = true then
       (if (decide (bt s pos % 16 * 4096 + bt s (pos + 1) % 64 * 64 + bt s (pos + 2) % 64 ≥ 2048) && Utf8.valid (bt s pos % 16 * 4096 + bt s (pos + 1) % 64 * 64 + bt s (pos + 2) % 64 : Nat)) = true then (bt s pos % 16 * 4096 + bt s (pos + 1) % 64 * 64 + bt s (pos + 2) % 64, 3) else (65533, 1))
     else if (bt s pos / 8 == 30 && (decide (pos + 1 < s.size) && bt s (pos + 1) / 64 == 2) && (decide (pos + 2 < s.size) && bt s (pos + 2) / 64 == 2) && (decide (pos + 3 < s.size) && bt s (pos + 3) / 64 == 2)) = true then
       (if (decide (bt s pos % 8 * 262144 + bt s (pos + 1) % 64 * 4096 + bt s (pos + 2) % 64 * 64 + bt s (pos + 3) % 64 ≥ 65536) && Utf8.valid (bt s pos % 8 * 262144 + bt s (pos + 1) % 64 * 4096 + bt s (pos + 2) % 64 * 64 + bt s (pos + 3) % 64 : Nat)) = true then (bt s pos % 8 * 262144 + bt s (pos + 1) % 64 * 4096 + bt s (pos + 2) % 64 * 64 + bt s (pos + 3) % 64, 4) else (65533, 1))
     else (65533, 1)) := rfl
theorem dec_bad (s : ByteArray) (pos : Nat) (h : pos < s.size) (hl : len1 (s.size - pos) (bt s pos) (bt s (pos + 1)) (bt s (pos + 2)) (bt s (pos + 3)) = 0) :
    Utf8.decode s pos = (65533, 1) ∧ ¬ (3 ≤ s.size - pos ∧ bt s pos = 239 ∧ bt s (pos + 1) = 191 ∧ bt s (pos + 2) = 189) := by
  have b0 := bt_lt s pos
  have b1 := bt_lt s (pos + 1)
  have b2 := bt_lt s (pos + 2)
  have b3 := bt_lt s (pos + 3)
  rw [decode_bt]
  unfold len1 at hl
  unfold Utf8.valid
  generalize bt s pos = B0 at *
  generalize bt s (pos + 1) = B1 at *
  generalize bt s (pos + 2) = B2 at *
  generalize bt s (pos + 3) = B3 at *
  simp only [Bool.and_eq_true, Bool.or_eq_true, beq_iff_eq, decide_eq_true_eq]
  repeat' split at hl
  all_goals first | omega | skip
  constructor
  · repeat' split
    all_goals first | rfl | (exfalso; omega)
  · omega
theorem dec_good (s : ByteArray) (pos : Nat) (h : pos < s.size) (hl : len1 (s.size - pos) (bt s pos) (bt s (pos + 1)) (bt s (pos + 2)) (bt s (pos + 3)) ≠ 0) :
    (Utf8.decode s pos).2 = len1 (s.size - pos) (bt s pos) (bt s (pos + 1)) (bt s (pos + 2)) (bt s (pos + 3)) ∧ ((Utf8.decode s pos).1 = 65533 → 3 ≤ s.size - pos ∧ bt s pos = 239 ∧ bt s (pos + 1) = 191 ∧ bt s (pos + 2) = 189) := by
  have b0 := bt_lt s pos
  have b1 := bt_lt s (pos + 1)
  have b2 := bt_lt s (pos + 2)
  have b3 := bt_lt s (pos + 3)
  rw [decode_bt]
  unfold len1 at hl ⊢
  unfold Utf8.valid
  generalize bt s pos = B0 at *
  generalize bt s (pos + 1) = B1 at *
  generalize bt s (pos + 2) = B2 at *
  generalize bt s (pos + 3) = B3 at *
  simp only [Bool.and_eq_true, Bool.or_eq_true, beq_iff_eq, decide_eq_true_eq]
  repeat' split at hl
  all_goals first | omega | skip
  all_goals (repeat' split)
  all_goals omega
  all_goals (refine ⟨by omega, fun hc => ?_⟩)
  all_goals (simp only at hc)
  all_goals omega
theorem pre_err (t : ByteArray) : pre t errB = true ↔ 3 ≤ t.size ∧ bt t 0 = 239 ∧ bt t 1 = 191 ∧ bt t 2 = 189 := by
  unfold pre
  rw [Bool.and_eq_true, decide_eq_true_eq, beq_iff_eq, Lib.extract_toList, Lib.toList_data]
  obtain ⟨⟨l⟩⟩ := t
  match l with
  | [] => simp [errB, ByteArray.size]
  | [a] => simp [errB, ByteArray.size]
  | [a, b] => simp [errB, ByteArray.size]
  | a :: b :: c :: r =>
    have e0 : bt ⟨⟨a :: b :: c :: r⟩⟩ 0 = a.toNat := rfl
    have e1 : bt ⟨⟨a :: b :: c :: r⟩⟩ 1 = b.toNat := rfl
    have e2 : bt ⟨⟨a :: b :: c :: r⟩⟩ 2 = c.toNat := rfl
    rw [e0, e1, e2]
    have h3 : (3 : Nat) ≤ (ByteArray.mk (a :: b :: c :: r).toArray).size := by simp [ByteArray.size]
    have hs : errB.size = 3 := rfl
    have he : errB.data.toList = [239, 191, 189] := rfl
    rw [hs, he]
    have hu : ∀ (x : UInt8) (n : Nat) (hn : n < 256), x = UInt8.ofNat n ↔ x.toNat = n := by
      intro x n hn
      rw [← UInt8.toNat_inj, UInt8.toNat_ofNat']
      omega
    constructor
    · rintro ⟨_, h⟩
      simp at h
      obtain ⟨rfl, rfl, rfl⟩ := h
      exact ⟨h3, rfl, rfl, rfl⟩
    · rintro ⟨_, q0, q1, q2⟩
      refine ⟨h3, ?_⟩
      have r0 := (hu a 239 (by decide)).2 q0
      have r1 := (hu b 191 (by decide)).2 q1
      have r2 := (hu c 189 (by decide)).2 q2
      subst r0 r1 r2
      rfl
theorem pos_len (s : ByteArray) (pos : Nat) : (s.extract pos s.size).size = s.size - pos := by rw [ByteArray.size_extract]; omega
theorem len1_congr {m B0 B1 B2 B3 C1 C2 C3 : Nat} (h1 : 1 < m → B1 = C1) (h2 : 2 < m → B2 = C2) (h3 : 3 < m → B3 = C3) : len1 m B0 B1 B2 B3 = len1 m B0 C1 C2 C3 := by
  by_cases q3 : 3 < m
  · rw [h1 (by omega), h2 (by omega), h3 q3]
  · by_cases q2 : 2 < m
    · rw [h1 (by omega), h2 q2]
      unfold len1
      repeat' split
      all_goals first | rfl | omega
    · by_cases q1 : 1 < m
      · rw [h1 q1]
        unfold len1
        repeat' split
        all_goals first | rfl | omega
      · unfold len1
        repeat' split
        all_goals first | rfl | omega
theorem oneV_at (s : ByteArray) (pos : Nat) (h : pos < s.size) : oneV (s.extract pos s.size) = (len1 (s.size - pos) (bt s pos) (bt s (pos + 1)) (bt s (pos + 2)) (bt s (pos + 3)) : Int) := by
  rw [oneV_len1 _ (by rw [pos_len]; omega), pos_len, bt_extract s pos 0 (by omega)]
  refine congrArg (fun n : Nat => (n : Int)) <| ?_
  exact len1_congr (fun h => bt_extract s pos 1 (by omega)) (fun h => bt_extract s pos 2 (by omega)) (fun h => bt_extract s pos 3 (by omega))
theorem bad_iff (s : ByteArray) (pos : Nat) (h : pos < s.size) : (badAt s pos = true ∧ oneV (s.extract pos s.size) = 0) ∨ (badAt s pos = false ∧ oneV (s.extract pos s.size) ≠ 0 ∧ (oneV (s.extract pos s.size)).toNat = (Utf8.decode s pos).2) := by
  have hpre : pre (s.extract pos s.size) errB = true ↔ 3 ≤ s.size - pos ∧ bt s pos = 239 ∧ bt s (pos + 1) = 191 ∧ bt s (pos + 2) = 189 := by
    rw [pre_err, pos_len]
    constructor
    · rintro ⟨q, q0, q1, q2⟩
      rw [bt_extract s pos 0 (by omega)] at q0
      rw [bt_extract s pos 1 (by omega)] at q1
      rw [bt_extract s pos 2 (by omega)] at q2
      exact ⟨q, q0, q1, q2⟩
    · rintro ⟨q, q0, q1, q2⟩
      rw [bt_extract s pos 0 (by omega), bt_extract s pos 1 (by omega), bt_extract s pos 2 (by omega)]
      exact ⟨q, q0, q1, q2⟩
  rw [oneV_at s pos h]
  by_cases hl : len1 (s.size - pos) (bt s pos) (bt s (pos + 1)) (bt s (pos + 2)) (bt s (pos + 3)) = 0
  · obtain ⟨q1, q2⟩ := dec_bad s pos h hl
    refine .inl ⟨?_, by rw [hl]; rfl⟩
    have : pre (s.extract pos s.size) errB = false := by
      cases hp : pre (s.extract pos s.size) errB with
      | false => rfl
      | true => exact absurd (hpre.1 hp) q2
    unfold badAt
    rw [q1, this]; rfl
  · obtain ⟨q1, q2⟩ := dec_good s pos h hl
    refine .inr ⟨?_, by omega, by rw [q1]; omega⟩
    unfold badAt
    by_cases hc : (Utf8.decode s pos).1 = 65533
    · rw [hpre.2 (q2 hc)]; simp
    · have : ((Utf8.decode s pos).1 == 65533) = false := by simpa using hc
      rw [this]; rfl
theorem chk_eq (s : ByteArray) : chk s = chkR s := by
  have : ∀ f pos, chkF s f pos = chkRF s f pos := by
    intro f
    induction f with
    | zero => intro pos; rfl
    | succ f ih =>
      intro pos
      rw [chkF, chkRF]
      by_cases h : pos < s.size
      · rw [if_pos h, if_pos h]
        rcases bad_iff s pos h with ⟨q1, q2⟩ | ⟨q1, q2, q3⟩
        · rw [if_pos q1, if_pos q2]
        · rw [if_neg (by rw [q1]; simp), if_neg q2, q3, ih]
      · rw [if_neg h, if_neg h]
  exact this _ _
end Go.Proofs.YtgmfgmbgmjbdhaaGreatDoor
end
section
namespace Go.Proofs.YtgmfgmbgmjbdhaaGreatDoor
open Go Go.RowKit Go.Eng
set_option linter.unusedSimpArgs false
set_option linter.unusedVariables false
set_option maxRecDepth 100000
theorem cmp_skip : ∀ (k : Nat) (l r : List UInt8), k ≤ l.length → k ≤ r.length → (∀ j, j < k → l[j]? = r[j]?) → Lib.compareBytes l r = Lib.compareBytes (l.drop k) (r.drop k)
  | 0, l, r, _, _, _ => by simp
  | k + 1, [], r, h, _, _ => by simp at h
  | k + 1, _ :: _, [], _, h, _ => by simp at h
  | k + 1, a :: l, b :: r, h1, h2, h => by
    have h0 := h 0 (by omega)
    simp at h0
    subst h0
    have := cmp_skip k l r (by simpa using h1) (by simpa using h2) (fun j hj => by simpa using h (j + 1) (by omega))
    rw [List.drop_succ_cons, List.drop_succ_cons, ← this, Lib.compareBytes]
    simp
theorem bAt_nat (s : ByteArray) (k : Nat) (h : k < s.size) : bAt s (k : Int) = ((s.data.toList[k]'(by simpa using h)).toNat : Int) := by
  unfold bAt
  rw [dif_pos (by simpa using h)]
  rfl
theorem cmp_at (a b : ByteArray) (k : Nat) (ha : k < a.size) (hb : k < b.size) (h : ∀ j, j < k → bAt a (j : Int) = bAt b (j : Int)) (hne : ¬ bAt a (k : Int) = bAt b (k : Int)) : decide (cmpB a b < 0) = decide (bAt a (k : Int) < bAt b (k : Int)) := by
  have hal : k < a.data.toList.length := by simpa using ha
  have hbl : k < b.data.toList.length := by simpa using hb
  have e1 : cmpB a b = Lib.compareBytes (a.data.toList.drop k) (b.data.toList.drop k) := cmp_skip k _ _ (by omega) (by omega) (fun j hj => by
    have := h j hj
    rw [bAt_nat a j (by omega), bAt_nat b j (by omega)] at this
    rw [List.getElem?_eq_getElem (by omega), List.getElem?_eq_getElem (by omega)]
    congr 1
    exact UInt8.toNat_inj.1 (by omega))
  rw [bAt_nat a k ha, bAt_nat b k hb] at hne ⊢
  rw [e1, List.drop_eq_getElem_cons hal, List.drop_eq_getElem_cons hbl, Lib.compareBytes]
  generalize a.data.toList[k] = p at hne ⊢
  generalize b.data.toList[k] = q at hne ⊢
  by_cases h1 : p < q
  · have : p.toNat < q.toNat := h1
    rw [if_pos h1]; simp [this]
  · have h2 : ¬ p.toNat < q.toNat := h1
    have h3 : q < p := by show q.toNat < p.toNat; omega
    rw [if_neg h1, if_pos h3]; simp; omega
theorem cmp_end (a b : ByteArray) (k : Nat) (hk : k = min a.size b.size) (h : ∀ j, j < k → bAt a (j : Int) = bAt b (j : Int)) : decide (cmpB a b < 0) = decide ((a.size : Int) < b.size) := by
  have hal : a.data.toList.length = a.size := by simp
  have hbl : b.data.toList.length = b.size := by simp
  have e1 : cmpB a b = Lib.compareBytes (a.data.toList.drop k) (b.data.toList.drop k) := cmp_skip k _ _ (by omega) (by omega) (fun j hj => by
    have := h j hj
    rw [bAt_nat a j (by omega), bAt_nat b j (by omega)] at this
    rw [List.getElem?_eq_getElem (by omega), List.getElem?_eq_getElem (by omega)]
    congr 1
    exact UInt8.toNat_inj.1 (by omega))
  rw [e1]
  by_cases h1 : a.size < b.size
  · have e2 : a.data.toList.drop k = [] := List.drop_eq_nil_of_le (by omega)
    have e3 : k < b.data.toList.length := by omega
    rw [e2, List.drop_eq_getElem_cons e3, Lib.compareBytes]
    simp; omega
  · by_cases h2 : a.size = b.size
    · have e2 : a.data.toList.drop k = [] := List.drop_eq_nil_of_le (by omega)
      have e3 : b.data.toList.drop k = [] := List.drop_eq_nil_of_le (by omega)
      rw [e2, e3, Lib.compareBytes]; simp; omega
    · have e2 : b.data.toList.drop k = [] := List.drop_eq_nil_of_le (by omega)
      have e3 : k < a.data.toList.length := by omega
      rw [e2, List.drop_eq_getElem_cons e3, Lib.compareBytes]
      simp; omega
theorem lessR_spec (a b : ByteArray) (ha : a.size ≤ 4000000) (H : Hp) : ACall Tryz.prog 35 [.v (.string a), .v (.string b)] H (IsR H (.v (.bool (lessB a b)))) := by
  unfold lessB
  refine UCall (n := 37) (H0 := H) (objs := []) Tryz.func35 (by kernel_rfl) rfl (by rw [Tryz.ntmps35]; rfl) .nil <| ?_
  refine Q.rg <| Q.as rfl <| Q.nt <| S.sq <| Q.rg <| Q.as rfl <| Q.nt <| UW.block <| S.loop (fun k : Nat => [(5, .v (.int .i64 (k : Int))), (0, .v (.string a)), (1, .v (.string b))]) (fun _ => []) (fun k => k ≤ a.size ∧ k ≤ b.size ∧ ∀ j, j < k → bAt a (j : Int) = bAt b (j : Int)) (fun k => a.size - k) 0 ⟨Nat.zero_le _, Nat.zero_le _, fun j h => absurd h (by omega)⟩ ⟨rfl, rfl, rfl, trivial⟩ (.refl _) <| ?_
  rintro k ⟨hk, hkb, hj⟩
  by_cases hlt : k < a.size
  · by_cases hlt2 : k < b.size
    · by_cases hne : bAt a (k : Int) = bAt b (k : Int)
      · focus
          refine S.sq <| Q.rg <| Q.mv rfl <| Q.mv rfl <| S.qu (Z.lnt Tryz.underlying9 rfl) <| Q.bi rfl rfl rfl <| Q.mv rfl <| ?_
          refine S.tD 10 (fun hc10 => ?_) (fun hc10 => ?_)
          rotate_left
          omega
          refine Q.on (Z.mv rfl) <| Q.on (Z.mv rfl) <| Q.on (Z.lnt Tryz.underlying9 rfl) <| Q.on (Z.bi rfl rfl rfl) <| Q.pk rfl rfl <| Q.nt <| S.cT rfl (decide_eq_true (by omega)) <| UW.skip <| UQ.then <| S.sq <| UW.block <| S.sq <| ?_
          refine' UW.draw' (by kernel_rfl) [0, 0, 3, 0, 0, 24, 63] [some 18, some 19, some 20, some 21, some 22, some 23, some 24] [some (18, _), some (19, _), some (20, _), some (21, _), some (22, _), some (23, _), some (24, _)] [] [] rfl (by decide) (by decide) (QAll.free (by decide) rfl rfl ?q1x0_0 (QAll.free (by decide) rfl rfl ?q1x0_1 (QAll.free (by decide) rfl rfl ?q1x0_2 (QAll.free (by decide) rfl rfl ?q1x0_3 (QAll.free (by decide) rfl rfl ?q1x0_4 (QAll.free (by decide) rfl rfl ?q1x0_5 (QAll.free (by decide) rfl rfl ?q1x0_6 QAll.nil))))))) ?q1x0_k
          case q1x0_0 => (intro _; exact Z.mv rfl)
          case q1x0_1 => (intro _; exact Z.mv rfl)
          case q1x0_2 => (intro _; exact Z.is Tryz.underlying9 rfl rfl (by omega) (by omega))
          case q1x0_3 => (intro _; exact Z.mv rfl)
          case q1x0_4 => (intro _; exact Z.mv rfl)
          case q1x0_5 => (intro _; exact Z.is Tryz.underlying9 rfl rfl (by omega) (by omega))
          case q1x0_6 => (intro _; exact Z.bi rfl rfl rfl)
          refine CH.nil <| ?_
          simp only [app, finL]
          refine UQ.then <| S.cF rfl (bne_f (by omega)) <| UW.skip <| UQ.blockN <| UQ.then <| S.rg <| Q.mv rfl <| S.qu (Z.add (r := ((k + 1 : Nat) : Int)) rfl rfl (IntWalk.i64_in _ (by omega))) <| Q.as rfl <| US.nil <| ?_
          refine S.back _ ⟨rfl, rfl, rfl, trivial⟩ (.refl _) ?_ (by omega)
        refine ⟨by omega, by omega, fun j h3 => ?_⟩
        by_cases hjk : j = k
        · subst hjk; exact hne
        · exact hj j (by omega)
      · focus
          refine S.sq <| Q.rg <| Q.mv rfl <| Q.mv rfl <| S.qu (Z.lnt Tryz.underlying9 rfl) <| Q.bi rfl rfl rfl <| Q.mv rfl <| ?_
          refine S.tD 10 (fun hc10 => ?_) (fun hc10 => ?_)
          rotate_left
          omega
          refine Q.on (Z.mv rfl) <| Q.on (Z.mv rfl) <| Q.on (Z.lnt Tryz.underlying9 rfl) <| Q.on (Z.bi rfl rfl rfl) <| Q.pk rfl rfl <| Q.nt <| S.cT rfl (decide_eq_true (by omega)) <| UW.skip <| UQ.then <| S.sq <| UW.block <| S.sq <| ?_
          refine' UW.draw' (by kernel_rfl) [0, 0, 3, 0, 0, 24, 63] [some 18, some 19, some 20, some 21, some 22, some 23, some 24] [some (18, _), some (19, _), some (20, _), some (21, _), some (22, _), some (23, _), some (24, _)] [] [] rfl (by decide) (by decide) (QAll.free (by decide) rfl rfl ?q2x0_0 (QAll.free (by decide) rfl rfl ?q2x0_1 (QAll.free (by decide) rfl rfl ?q2x0_2 (QAll.free (by decide) rfl rfl ?q2x0_3 (QAll.free (by decide) rfl rfl ?q2x0_4 (QAll.free (by decide) rfl rfl ?q2x0_5 (QAll.free (by decide) rfl rfl ?q2x0_6 QAll.nil))))))) ?q2x0_k
          case q2x0_0 => (intro _; exact Z.mv rfl)
          case q2x0_1 => (intro _; exact Z.mv rfl)
          case q2x0_2 => (intro _; exact Z.is Tryz.underlying9 rfl rfl (by omega) (by omega))
          case q2x0_3 => (intro _; exact Z.mv rfl)
          case q2x0_4 => (intro _; exact Z.mv rfl)
          case q2x0_5 => (intro _; exact Z.is Tryz.underlying9 rfl rfl (by omega) (by omega))
          case q2x0_6 => (intro _; exact Z.bi rfl rfl rfl)
          refine CH.nil <| ?_
          simp only [app, finL]
          refine UQ.then <| S.cT rfl (bne_t (by omega)) <| S.sq <| ?_
          refine' UW.draw' (by kernel_rfl) [0, 0, 3, 0, 0, 24, 63, 127] [some 25, some 26, some 27, some 28, some 29, some 30, some 31, some 4] [some (25, _), some (26, _), some (27, _), some (28, _), some (29, _), some (30, _), some (31, _), some (4, _)] [] [] rfl (by decide) (by decide) (QAll.free (by decide) rfl rfl ?q2x1_0 (QAll.free (by decide) rfl rfl ?q2x1_1 (QAll.free (by decide) rfl rfl ?q2x1_2 (QAll.free (by decide) rfl rfl ?q2x1_3 (QAll.free (by decide) rfl rfl ?q2x1_4 (QAll.free (by decide) rfl rfl ?q2x1_5 (QAll.free (by decide) rfl rfl ?q2x1_6 (QAll.free (by decide) rfl rfl ?q2x1_7 QAll.nil)))))))) ?q2x1_k
          case q2x1_0 => (intro _; exact Z.mv rfl)
          case q2x1_1 => (intro _; exact Z.mv rfl)
          case q2x1_2 => (intro _; exact Z.is Tryz.underlying9 rfl rfl (by omega) (by omega))
          case q2x1_3 => (intro _; exact Z.mv rfl)
          case q2x1_4 => (intro _; exact Z.mv rfl)
          case q2x1_5 => (intro _; exact Z.is Tryz.underlying9 rfl rfl (by omega) (by omega))
          case q2x1_6 => (intro _; exact Z.bi rfl rfl rfl)
          case q2x1_7 => (intro _; exact Z.as rfl)
          refine CH.nil <| ?_
          simp only [app, finL]
          refine UQ.then <| UW.ret <| UQ.blockR <| UQ.passR <| UQ.passR <| UQ.blockR <| UQ.passR <| S.rtR (fun _ => res_tmp rfl rfl) <| ?_
        rw [cmp_at a b k hlt hlt2 hj hne]
    · focus
        refine S.sq <| Q.rg <| Q.mv rfl <| Q.mv rfl <| S.qu (Z.lnt Tryz.underlying9 rfl) <| Q.bi rfl rfl rfl <| Q.mv rfl <| ?_
        refine S.tD 10 (fun hc10 => ?_) (fun hc10 => ?_)
        rotate_left
        omega
        refine Q.on (Z.mv rfl) <| Q.on (Z.mv rfl) <| Q.on (Z.lnt Tryz.underlying9 rfl) <| Q.on (Z.bi rfl rfl rfl) <| Q.pk rfl rfl <| Q.nt <| S.cF rfl (decide_eq_false (by omega)) <| UW.exit <| UQ.pass <| UQ.pass <| UQ.here <| UQ.then <| Q.rg <| Q.mv rfl <| S.qu (Z.lnt Tryz.underlying9 rfl) <| Q.mv rfl <| S.qu (Z.lnt Tryz.underlying9 rfl) <| Q.bi rfl rfl rfl <| Q.as rfl <| Q.nt <| UW.ret <| S.rtR (fun _ => res_tmp rfl rfl) <| ?_
      rw [cmp_end a b k (by omega) hj]
  · refine S.sq <| Q.rg <| Q.mv rfl <| Q.mv rfl <| S.qu (Z.lnt Tryz.underlying9 rfl) <| Q.bi rfl rfl rfl <| Q.mv rfl <| ?_
    refine S.tD 10 (fun hc10 => ?_) (fun hc10 => ?_)
    omega
    refine Q.of <| Q.of <| Q.of <| Q.of <| Q.pk rfl rfl <| Q.nt <| S.cF rfl rfl <| UW.exit <| UQ.pass <| UQ.pass <| UQ.here <| UQ.then <| Q.rg <| Q.mv rfl <| S.qu (Z.lnt Tryz.underlying9 rfl) <| Q.mv rfl <| S.qu (Z.lnt Tryz.underlying9 rfl) <| Q.bi rfl rfl rfl <| Q.as rfl <| Q.nt <| UW.ret <| S.rtR (fun _ => res_tmp rfl rfl) <| ?_
    rw [cmp_end a b k (by omega) hj]
theorem stringsR_spec (l r : List ByteArray) (hl : l.length ≤ 1000000) (H : Hp) : ACall Tryz.prog 44 [strs l, strs r] H (IsR H (.v (.bool (eqBy eqT l r)))) := by
  have hml : (l.map encS).length = l.length := List.length_map ..
  have hmr : (r.map encS).length = r.length := List.length_map ..
  refine UCall (n := 26) (H0 := H) (objs := []) Tryz.func44 (by kernel_rfl) rfl (by rw [Tryz.ntmps44]; rfl) .nil <| ?_
  by_cases hlen : l.length = r.length
  · refine Q.rg <| Q.as rfl <| Q.nt <| S.sq <| Q.rg <| Q.mv rfl <| S.qu (Z.lns sl23 rfl) <| Q.mv rfl <| S.qu (Z.lns sl23 rfl) <| Q.bi rfl rfl rfl <| Q.nt <| S.cF rfl (bne_f (by omega)) <| UW.skip <| UQ.then <| S.sq <| Q.rg <| Q.as rfl <| Q.nt <| UW.block <| S.loop (fun k : Nat => [(5, .v (.int .i64 (k : Int))), (0, strs l), (1, strs r)]) (fun _ => []) (fun k => k ≤ l.length ∧ ∀ (j : Nat) (h : j < l.length) (h' : j < r.length), j < k → eqT l[j] r[j] = true) (fun k => l.length - k) 0 ⟨Nat.zero_le _, fun j _ _ h => absurd h (by omega)⟩ ⟨rfl, rfl, rfl, trivial⟩ (.refl _) <| ?_
    rintro k ⟨hk, hj⟩
    by_cases hlt : k < l.length
    · have hgr := strs_get r k (by omega)
      focus
        refine S.sq <| Q.rg <| Q.mv rfl <| Q.mv rfl <| S.qu (Z.lns sl23 rfl) <| Q.bi rfl rfl rfl <| Q.nt <| S.cT rfl (decide_eq_true (by omega)) <| UW.skip <| UQ.then <| S.sq <| UW.block <| S.sq <| ?_
        refine' UW.draw' (by kernel_rfl) [0, 0, 3, 7, 0, 0, 48, 112, 255] [some 17, some 18, some 19, some 20, some 21, some 22, some 23, some 24, some 25] [some (17, _), some (18, _), some (19, _), some (20, _), some (21, _), some (22, _), some (23, _), some (24, _), some (25, _)] [] [3, 7] rfl (by decide) (by decide) (QAll.free (by decide) rfl rfl ?q6x0_0 (QAll.free (by decide) rfl rfl ?q6x0_1 (QAll.free (by decide) rfl rfl ?q6x0_2 (QAll.held (by decide) rfl rfl ?q6x0_3 (QAll.free (by decide) rfl rfl ?q6x0_4 (QAll.free (by decide) rfl rfl ?q6x0_5 (QAll.free (by decide) rfl rfl ?q6x0_6 (QAll.held (by decide) rfl rfl ?q6x0_7 (QAll.free (by decide) rfl rfl ?q6x0_8 QAll.nil))))))))) ?q6x0_k
        case q6x0_0 => (intro _; exact Z.mv rfl)
        case q6x0_1 => (intro _; exact Z.mv rfl)
        case q6x0_2 => (intro _; exact Z.ia sl23 rfl rfl (by omega) (strs_get _ _ (by omega)) (by rfl))
        case q6x0_3 => exact Z.lpc ty9 rfl
        case q6x0_4 => (intro _; exact Z.mv rfl)
        case q6x0_5 => (intro _; exact Z.mv rfl)
        case q6x0_6 => (intro _; exact Z.ia sl23 rfl rfl (by omega) (by assumption) (by rfl))
        case q6x0_7 => exact Z.lpc ty9 rfl
        case q6x0_8 => (intro _; exact Z.bs rfl rfl rfl)
        refine CH.nil <| ?_
        simp only [app, finL]
        refine UQ.then <| ?_
        refine S.cO rfl (fun hc25 => ?_) (fun hc25 => ?_)
        refine Q.rg <| Q.as rfl <| Q.nt <| UW.ret <| UQ.blockR <| UQ.passR <| UQ.passR <| UQ.blockR <| UQ.passR <| S.rtR (fun _ => res_tmp rfl rfl) <| ?_
        rotate_left
        refine UW.skip <| UQ.blockN <| UQ.then <| S.rg <| Q.mv rfl <| S.qu (Z.add (r := ((k + 1 : Nat) : Int)) rfl rfl (IntWalk.i64_in _ (by omega))) <| Q.as rfl <| US.nil <| ?_
        refine S.back _ ⟨rfl, rfl, rfl, trivial⟩ (.refl _) ?_ (by omega)
        rotate_left
      · rw [eqBy_at k hlt (by omega) (by unfold eqT; simpa using hc25)]
      · refine ⟨by omega, fun j h3 h4 h5 => ?_⟩
        by_cases hjk : j = k
        · subst hjk; unfold eqT; simpa using hc25
        · exact hj j h3 h4 (by omega)
    · refine S.sq <| Q.rg <| Q.mv rfl <| Q.mv rfl <| S.qu (Z.lns sl23 rfl) <| Q.bi rfl rfl rfl <| Q.nt <| S.cF rfl (decide_eq_false (by omega)) <| UW.exit <| UQ.pass <| UQ.pass <| UQ.here <| UQ.then <| Q.rg <| Q.as rfl <| Q.nt <| UW.ret <| S.rtR (fun _ => res_tmp rfl rfl) <| ?_
      rw [eqBy_true hlen (fun i h1 h2 => hj i h1 h2 (by omega))]
  · refine Q.rg <| Q.as rfl <| Q.nt <| S.sq <| Q.rg <| Q.mv rfl <| S.qu (Z.lns sl23 rfl) <| Q.mv rfl <| S.qu (Z.lns sl23 rfl) <| Q.bi rfl rfl rfl <| Q.nt <| S.cT rfl (bne_t (by omega)) <| Q.rg <| Q.as rfl <| Q.nt <| UW.ret <| UQ.passR <| S.rtR (fun _ => res_tmp rfl rfl) <| ?_
    rw [eqBy_len hlen]
end Go.Proofs.YtgmfgmbgmjbdhaaGreatDoor
end
section
namespace Go.Proofs.YtgmfgmbgmjbdhaaGreatDoor
open Go Go.RowKit Go.Eng
set_option linter.unusedSimpArgs false
set_option linter.unusedVariables false
set_option maxRecDepth 100000
set_option maxHeartbeats 4000000
/-- A byte's short escape. -/
def signB (c : Int) : Int := if c = 34 then 34 else if c = 92 then 92 else if c = 8 then 98 else if c = 9 then 116 else if c = 10 then 110 else if c = 12 then 102 else if c = 13 then 114 else 0
theorem signB_bd (c : Int) : 0 ≤ signB c ∧ signB c < 256 := by unfold signB; (repeat' split) <;> omega
theorem sign_spec (c : Int) (H : Hp) : ACall Tryz.prog 113 [.v (.int .u8 c)] H (IsR H (.v (.int .u8 (signB c)))) := by
  refine UCall (n := 18) (H0 := H) (objs := []) Tryz.func113 (by kernel_rfl) rfl (by rw [Tryz.ntmps113]; rfl) .nil ?_
  refine S.sq (S.rg ?_)
  refine S.qu (Z.as rfl) ?_
  refine US.nil (UQ.then (S.sq (S.sq (S.rg ?_))))
  refine S.qu (Z.mv rfl) ?_
  refine US.nil (UQ.then (UW.block (S.sq (S.sq (S.rg ?_)))))
  refine S.qu (Z.bi rfl rfl rfl) ?_
  refine S.qu (Z.as rfl) ?_
  refine US.nil (UQ.then ?_)
  refine S.cE rfl (fun hc4 => ?_) (fun hc4 => ?_)
  refine UW.skip (UQ.then ?_)
  refine S.cT rfl (beq_t (by omega)) ?_
  refine S.sq (S.rg ?_)
  refine S.qu (Z.mv rfl) ?_
  refine S.qu (Z.as rfl) ?_
  refine US.nil (UQ.then (UW.ret (UQ.blockR (UQ.passR ?_))))
  refine S.rtR (fun _ => res_tmp rfl rfl) ?_
  focus (congr 2; unfold signB; (repeat' split) <;> omega; done)
  refine S.rg ?_
  refine S.qu (Z.bi rfl rfl rfl) ?_
  refine S.qu (Z.as rfl) ?_
  refine US.nil (UQ.then ?_)
  refine S.cE rfl (fun hc4 => ?_) (fun hc4 => ?_)
  refine S.sq (S.rg ?_)
  refine S.qu (Z.mv rfl) ?_
  refine S.qu (Z.as rfl) ?_
  refine US.nil (UQ.then (UW.ret (UQ.blockR (UQ.passR ?_))))
  refine S.rtR (fun _ => res_tmp rfl rfl) ?_
  focus (congr 2; unfold signB; (repeat' split) <;> omega; done)
  refine S.sq (S.rg ?_)
  refine S.qu (Z.bi rfl rfl rfl) ?_
  refine S.qu (Z.as rfl) ?_
  refine US.nil (UQ.then ?_)
  refine S.cE rfl (fun hc8 => ?_) (fun hc8 => ?_)
  refine S.sq (S.rg ?_)
  refine S.qu (Z.as rfl) ?_
  refine US.nil (UQ.then (UW.ret (UQ.blockR (UQ.passR ?_))))
  refine S.rtR (fun _ => res_tmp rfl rfl) ?_
  focus (congr 2; unfold signB; (repeat' split) <;> omega; done)
  refine S.sq (S.rg ?_)
  refine S.qu (Z.bi rfl rfl rfl) ?_
  refine S.qu (Z.as rfl) ?_
  refine US.nil (UQ.then ?_)
  refine S.cE rfl (fun hc10 => ?_) (fun hc10 => ?_)
  refine S.sq (S.rg ?_)
  refine S.qu (Z.as rfl) ?_
  refine US.nil (UQ.then (UW.ret (UQ.blockR (UQ.passR ?_))))
  refine S.rtR (fun _ => res_tmp rfl rfl) ?_
  focus (congr 2; unfold signB; (repeat' split) <;> omega; done)
  refine S.sq (S.rg ?_)
  refine S.qu (Z.bi rfl rfl rfl) ?_
  refine S.qu (Z.as rfl) ?_
  refine US.nil (UQ.then ?_)
  refine S.cE rfl (fun hc12 => ?_) (fun hc12 => ?_)
  refine S.sq (S.rg ?_)
  refine S.qu (Z.as rfl) ?_
  refine US.nil (UQ.then (UW.ret (UQ.blockR (UQ.passR ?_))))
  refine S.rtR (fun _ => res_tmp rfl rfl) ?_
  focus (congr 2; unfold signB; (repeat' split) <;> omega; done)
  refine S.sq (S.rg ?_)
  refine S.qu (Z.bi rfl rfl rfl) ?_
  refine S.qu (Z.as rfl) ?_
  refine US.nil (UQ.then ?_)
  refine S.cE rfl (fun hc14 => ?_) (fun hc14 => ?_)
  refine S.sq (S.rg ?_)
  refine S.qu (Z.as rfl) ?_
  refine US.nil (UQ.then (UW.ret (UQ.blockR (UQ.passR ?_))))
  refine S.rtR (fun _ => res_tmp rfl rfl) ?_
  focus (congr 2; unfold signB; (repeat' split) <;> omega; done)
  refine S.sq (S.rg ?_)
  refine S.qu (Z.bi rfl rfl rfl) ?_
  refine S.qu (Z.as rfl) ?_
  refine US.nil (UQ.then ?_)
  refine S.cE rfl (fun hc16 => ?_) (fun hc16 => ?_)
  refine S.sq (S.rg ?_)
  refine S.qu (Z.as rfl) ?_
  refine US.nil (UQ.then (UW.ret (UQ.blockR (UQ.passR ?_))))
  refine S.rtR (fun _ => res_tmp rfl rfl) ?_
  focus (congr 2; unfold signB; (repeat' split) <;> omega; done)
  refine UW.skip (UQ.blockN (UQ.then (S.sq (S.rg ?_))))
  refine S.qu (Z.as rfl) ?_
  refine US.nil (UQ.then (UW.ret ?_))
  refine S.rtR (fun _ => res_tmp rfl rfl) ?_
  focus (congr 2; unfold signB; (repeat' split) <;> omega; done)
def fromB : ByteArray := ⟨#[34, 92, 8, 9, 10, 12, 13]⟩
def toB : ByteArray := ⟨#[34, 92, 98, 116, 110, 102, 114]⟩
theorem short_at : ∀ j : Fin 7, signB (bAt fromB (j.val : Int)) = bAt toB (j.val : Int) := by decide
theorem short_no (c : Int) (h : ∀ i : Nat, i < 7 → ¬ bAt fromB (i : Int) = c) : signB c = 0 := by
  have h0 := h 0 (by decide); have h1 := h 1 (by decide); have h2 := h 2 (by decide); have h3 := h 3 (by decide); have h4 := h 4 (by decide); have h5 := h 5 (by decide); have h6 := h 6 (by decide)
  rw [show bAt fromB (0 : Nat) = 34 from by decide] at h0
  rw [show bAt fromB (1 : Nat) = 92 from by decide] at h1
  rw [show bAt fromB (2 : Nat) = 8 from by decide] at h2
  rw [show bAt fromB (3 : Nat) = 9 from by decide] at h3
  rw [show bAt fromB (4 : Nat) = 10 from by decide] at h4
  rw [show bAt fromB (5 : Nat) = 12 from by decide] at h5
  rw [show bAt fromB (6 : Nat) = 13 from by decide] at h6
  unfold signB; (repeat' split) <;> omega
theorem short_spec (c : Int) (H : Hp) : ACall Tryz.prog 112 [.v (.int .u8 c)] H (IsR H (.v (.int .u8 (signB c)))) := by
  refine UCall (n := 14) (H0 := H) (objs := []) Tryz.func112 (by kernel_rfl) rfl (by rw [Tryz.ntmps112]; rfl) .nil ?_
  refine S.sq (S.rg ?_)
  refine S.qu (Z.as rfl) ?_
  refine US.nil (UQ.then (S.sq (S.sq (S.rg ?_))))
  refine S.qu (Z.as rfl) ?_
  refine US.nil (UQ.then (UW.block ?_))
  refine S.loop (fun j : Nat => [(3, .v (.int .i64 (j : Int))), (0, .v (.int .u8 c))]) (fun _ => []) (fun j => j ≤ 7 ∧ ∀ i : Nat, i < j → ¬ bAt fromB (i : Int) = c) (fun j => 7 - j) 0 ⟨Nat.zero_le _, fun i h => absurd h (by omega)⟩ ⟨rfl, rfl, trivial⟩ (.refl _) ?_
  rintro j ⟨hj, hjj⟩
  have hf7 : (fromB.size : Int) = 7 := rfl
  have ht7 : (toB.size : Int) = 7 := rfl
  by_cases hlt : j < 7
  · refine S.sq (S.sq (S.rg ?_))
    refine S.qu (Z.mv rfl) ?_
    refine S.qu (Z.bi rfl rfl rfl) ?_
    refine US.nil (UQ.then ?_)
    refine S.cT rfl (decide_eq_true (by omega)) ?_
    refine UW.skip (UQ.then (S.sq (UW.block (S.sq (S.rg ?_)))))
    refine S.qu (Z.mv rfl) ?_
    refine S.qu (Z.is (p := fromB) Tryz.underlying9 rfl rfl (by omega) (by show _ < (7 : Int); omega)) ?_
    refine S.qu (Z.mv rfl) ?_
    refine S.qu (Z.bi rfl rfl rfl) ?_
    refine US.nil (UQ.then ?_)
    refine S.cE rfl (fun hc11 => ?_) (fun hc11 => ?_)
    refine S.sq (S.rg ?_)
    refine S.qu (Z.mv rfl) ?_
    refine S.qu (Z.is (p := toB) Tryz.underlying9 rfl rfl (by omega) (by show _ < (7 : Int); omega)) ?_
    refine S.qu (Z.as rfl) ?_
    refine US.nil (UQ.then (UW.ret (UQ.blockR (UQ.passR (UQ.passR (UQ.blockR (UQ.passR ?_)))))))
    refine S.rtR (fun _ => res_tmp rfl rfl) ?_
    focus (first | (rw [← hc11, short_at ⟨j, hlt⟩]) | exact ⟨by omega, fun i hi => by by_cases h : i = j; (subst h; exact hc11); exact hjj i (by omega)⟩; done)
    refine UW.skip (UQ.blockN (UQ.then (S.rg ?_)))
    refine S.qu (Z.mv rfl) ?_
    refine S.qu (Z.add (r := ((j + 1 : Nat) : Int)) rfl rfl (IntWalk.i64_in _ (by omega))) ?_
    refine S.qu (Z.as rfl) ?_
    refine US.nil ?_
    refine S.back _ ⟨rfl, rfl, trivial⟩ (.refl _) ?_ (by omega)
    focus (first | (rw [← hc11, short_at ⟨j, hlt⟩]) | exact ⟨by omega, fun i hi => by by_cases h : i = j; (subst h; exact hc11); exact hjj i (by omega)⟩; done)
  · refine S.sq (S.sq (S.rg ?_))
    refine S.qu (Z.mv rfl) ?_
    refine S.qu (Z.bi rfl rfl rfl) ?_
    refine US.nil (UQ.then ?_)
    refine S.cF rfl (decide_eq_false (by omega)) ?_
    refine UW.exit (UQ.pass (UQ.pass (UQ.here (UQ.then (S.sq (S.rg ?_))))))
    refine S.qu (Z.as rfl) ?_
    refine US.nil (UQ.then (UW.ret ?_))
    refine S.rtR (fun _ => res_tmp rfl rfl) ?_
    focus (rw [short_no c (fun i hi => hjj i (by omega))]; done)
end Go.Proofs.YtgmfgmbgmjbdhaaGreatDoor
end
