/- The other reading of runes. -/
import Derived.Test.YtgmfgmbgmjbdhaaGreatDoorKs18
namespace Go.Proofs.YtgmfgmbgmjbdhaaGreatDoor
open Go Go.RowKit Go.Eng
set_option maxRecDepth 100000
set_option linter.unusedSimpArgs false
set_option linter.unusedVariables false
/-- The byte at i. -/
def bt (s : ByteArray) (i : Nat) : Nat := (s.get! i).toNat
theorem bt_at (s : ByteArray) (i : Nat) (h : i < s.size) : bt s i = (s[i]'h).toNat := by
  have e : s.get! i = s[i]'h := by simp [ByteArray.get!, getElem!_pos, h]; rfl
  unfold bt; rw [e]
theorem bt_lt (s : ByteArray) (i : Nat) : bt s i < 256 := UInt8.toNat_lt _
theorem more_spec' (c m : Int) (hm : moreN c = m) (H : Hp) : ACall Tryz.prog 127 [.v (.int .u8 c)] H (IsR H (.v (.int .i64 m))) := by rw [← hm]; exact more_spec c H
def contB (s : ByteArray) (i : Nat) : Bool := decide (128 ≤ bt s i) && decide (bt s i ≤ 191)
def rAcc (s : ByteArray) (r0 : Int) : Nat → Int
  | 0 => r0
  | i + 1 => 64 * rAcc s r0 i + (bt s (i + 1) : Int).tmod 64
theorem rAcc_bd (s : ByteArray) (r0 : Int) (h0 : 0 ≤ r0) (h1 : r0 ≤ 255) : ∀ i, 0 ≤ rAcc s r0 i ∧ rAcc s r0 i ≤ 256 * 64 ^ i - 1
  | 0 => by simp only [rAcc]; omega
  | i + 1 => by
    have ih := rAcc_bd s r0 h0 h1 i
    have h2 : 0 ≤ (bt s (i + 1) : Int).tmod 64 := Int.tmod_nonneg _ (by omega)
    have h3 : (bt s (i + 1) : Int).tmod 64 < 64 := Int.tmod_lt_of_pos _ (by decide)
    simp only [rAcc, Int.pow_succ]
    omega
theorem rAcc_le (s : ByteArray) (r0 : Int) (h0 : 0 ≤ r0) (h1 : r0 ≤ 255) (i : Nat) (hi : i ≤ 3) : 0 ≤ rAcc s r0 i ∧ rAcc s r0 i ≤ 67108863 := by
  have h := rAcc_bd s r0 h0 h1 i
  match i with
  | 0 => simp at h; omega
  | 1 => simp at h; omega
  | 2 => simp at h; omega
  | 3 => simp at h; omega
  | i + 4 => omega
def goodR (least r : Int) : Bool := decide (least ≤ r) && (!(decide (55296 ≤ r) && decide (r ≤ 57343)) && decide (r ≤ 1114111))
/-- One rune of n bytes more, its first part r0. -/
def oneN (s : ByteArray) (n : Nat) (least r0 : Int) : Int := if (List.range n).all (fun i => contB s (i + 1)) then (if goodR least (rAcc s r0 n) then (n : Int) + 1 else 0) else 0
/-- How long the first rune is; 0: there is none. -/
def oneV (s : ByteArray) : Int :=
  if s.size = 0 then 0
  else if moreN (bt s 0) < 0 then 0
  else if (s.size : Int) ≤ moreN (bt s 0) then 0
  else if moreN (bt s 0) = 0 then oneN s 0 0 (bt s 0)
  else if moreN (bt s 0) = 1 then oneN s 1 128 ((bt s 0 : Int).tmod 32)
  else if moreN (bt s 0) = 2 then oneN s 2 2048 ((bt s 0 : Int).tmod 16)
  else oneN s 3 65536 ((bt s 0 : Int).tmod 8)
theorem moreN_le (c : Int) : moreN c ≤ 3 := by unfold moreN; repeat' split
                                               all_goals omega
theorem empty_iff (s : ByteArray) : (s.toList == (⟨#[]⟩ : ByteArray).toList) = decide (s.size = 0) := by
  rw [Lib.toList_data, Lib.toList_data]
  obtain ⟨⟨l⟩⟩ := s
  cases l with
  | nil => rfl
  | cons a l => rfl
theorem one_spec (s : ByteArray) (hs : s.size ≤ 4000000) (H : Hp) : ACall Tryz.prog 97 [.v (.string s)] H (IsR H (.v (.int .i64 (oneV s)))) := by
  have hb0 := bt_lt s 0
  refine UCall (n := 80) (H0 := H) (objs := []) Tryz.func97 (by kernel_rfl) rfl (by rw [Tryz.ntmps97]; rfl) .nil <| ?_
  refine Q.rg <| Q.as rfl <| Q.nt <| UW.seq <| Q.rg <| ?_
  by_cases h0 : s.size = 0
  · refine Q.mv rfl <| US.bin_str rfl (by decide) rfl rfl rfl rfl (r := true) (congrArg some ((empty_iff s).trans (decide_eq_true h0))) <| Q.mv rfl <| Q.of <| Q.of <| Q.of <| Q.of <| Q.pk rfl rfl <| Q.mv rfl <| Q.of <| Q.of <| Q.of <| Q.of <| Q.of <| Q.of <| Q.pk rfl rfl <| Q.nt <| ?_
    refine UW.cond rfl (fun _ => ?_) (fun h => absurd h (by simp))
    refine Q.rg <| Q.as rfl <| Q.nt <| UW.ret <| UQ.passR <| ?_
    refine retR [] (fun _ => res_tmp rfl rfl) (.refl _) fun hd => ⟨?_, rfl⟩
    rw [oneV, if_pos h0]
  · obtain ⟨m, hm⟩ : ∃ m, moreN (bt s 0) = m := ⟨_, rfl⟩
    have hm3 : m ≤ 3 := hm ▸ moreN_le _
    by_cases m0 : m < 0
    · refine Q.mv rfl <| US.bin_str rfl (by decide) rfl rfl rfl rfl (r := false) (congrArg some ((empty_iff s).trans (decide_eq_false h0))) <| Q.mv rfl <| ?_
      (refine US.on rfl rfl (by decide) rfl ?_; refine US.move rfl (by decide) rfl rfl rfl ?_)
      (refine US.on rfl rfl (by decide) rfl ?_; refine US.index_str rfl (by decide) rfl rfl Tryz.underlying9 rfl rfl (by omega) (by omega) (c := (bt s 0 : Int)) (by rw [bt_at s 0 (by omega)]; rfl) ?_)
      (refine US.on rfl rfl (by decide) rfl ?_; refine US.call_pure rfl (by decide) rfl rfl rfl rfl (fun _ => more_spec' _ m hm _) ?_)
      (refine US.on rfl rfl (by decide) rfl ?_; refine US.bin_int rfl (by decide) rfl rfl rfl rfl (r := .bool true) (by (simp [iop, sop, m0]; done)) ?_)
      refine Q.pk rfl rfl <| Q.mv rfl <| Q.of <| Q.of <| Q.of <| Q.of <| Q.of <| Q.of <| Q.pk rfl rfl <| Q.nt <| ?_
      refine UW.cond rfl (fun _ => ?_) (fun h => absurd h (by simp))
      refine Q.rg <| Q.as rfl <| Q.nt <| UW.ret <| UQ.passR <| ?_
      refine retR [] (fun _ => res_tmp rfl rfl) (.refl _) fun hd => ⟨?_, rfl⟩
      rw [oneV, if_neg h0, hm, if_pos m0]
    · by_cases m1 : m ≥ (s.size : Int)
      · refine Q.mv rfl <| US.bin_str rfl (by decide) rfl rfl rfl rfl (r := false) (congrArg some ((empty_iff s).trans (decide_eq_false h0))) <| Q.mv rfl <| ?_
        (refine US.on rfl rfl (by decide) rfl ?_; refine US.move rfl (by decide) rfl rfl rfl ?_)
        (refine US.on rfl rfl (by decide) rfl ?_; refine US.index_str rfl (by decide) rfl rfl Tryz.underlying9 rfl rfl (by omega) (by omega) (c := (bt s 0 : Int)) (by rw [bt_at s 0 (by omega)]; rfl) ?_)
        (refine US.on rfl rfl (by decide) rfl ?_; refine US.call_pure rfl (by decide) rfl rfl rfl rfl (fun _ => more_spec' _ m hm _) ?_)
        (refine US.on rfl rfl (by decide) rfl ?_; refine US.bin_int rfl (by decide) rfl rfl rfl rfl (r := .bool false) (by (simp [iop, sop, m0]; done)) ?_)
        refine Q.pk rfl rfl <| Q.mv rfl <| ?_
        (refine US.on rfl rfl (by decide) rfl ?_; refine US.move rfl (by decide) rfl rfl rfl ?_)
        (refine US.on rfl rfl (by decide) rfl ?_; refine US.index_str rfl (by decide) rfl rfl Tryz.underlying9 rfl rfl (by omega) (by omega) (c := (bt s 0 : Int)) (by rw [bt_at s 0 (by omega)]; rfl) ?_)
        (refine US.on rfl rfl (by decide) rfl ?_; refine US.call_pure rfl (by decide) rfl rfl rfl rfl (fun _ => more_spec' _ m hm _) ?_)
        (refine US.on rfl rfl (by decide) rfl ?_; refine US.move rfl (by decide) rfl rfl rfl ?_)
        (refine US.on rfl rfl (by decide) rfl ?_; refine US.len_str rfl (by decide) rfl rfl Tryz.underlying9 rfl ?_)
        (refine US.on rfl rfl (by decide) rfl ?_; refine US.bin_int rfl (by decide) rfl rfl rfl rfl (r := .bool true) (by (simp [iop, sop, m1]; done)) ?_)
        refine Q.pk rfl rfl <| Q.nt <| ?_
        refine UW.cond rfl (fun _ => ?_) (fun h => absurd h (by simp))
        refine Q.rg <| Q.as rfl <| Q.nt <| UW.ret <| UQ.passR <| ?_
        refine retR [] (fun _ => res_tmp rfl rfl) (.refl _) fun hd => ⟨?_, rfl⟩
        rw [oneV, if_neg h0, hm, if_neg m0, if_pos (by omega)]
      · refine Q.mv rfl <| US.bin_str rfl (by decide) rfl rfl rfl rfl (r := false) (congrArg some ((empty_iff s).trans (decide_eq_false h0))) <| Q.mv rfl <| ?_
        (refine US.on rfl rfl (by decide) rfl ?_; refine US.move rfl (by decide) rfl rfl rfl ?_)
        (refine US.on rfl rfl (by decide) rfl ?_; refine US.index_str rfl (by decide) rfl rfl Tryz.underlying9 rfl rfl (by omega) (by omega) (c := (bt s 0 : Int)) (by rw [bt_at s 0 (by omega)]; rfl) ?_)
        (refine US.on rfl rfl (by decide) rfl ?_; refine US.call_pure rfl (by decide) rfl rfl rfl rfl (fun _ => more_spec' _ m hm _) ?_)
        (refine US.on rfl rfl (by decide) rfl ?_; refine US.bin_int rfl (by decide) rfl rfl rfl rfl (r := .bool false) (by (simp [iop, sop, m0]; done)) ?_)
        refine Q.pk rfl rfl <| Q.mv rfl <| ?_
        (refine US.on rfl rfl (by decide) rfl ?_; refine US.move rfl (by decide) rfl rfl rfl ?_)
        (refine US.on rfl rfl (by decide) rfl ?_; refine US.index_str rfl (by decide) rfl rfl Tryz.underlying9 rfl rfl (by omega) (by omega) (c := (bt s 0 : Int)) (by rw [bt_at s 0 (by omega)]; rfl) ?_)
        (refine US.on rfl rfl (by decide) rfl ?_; refine US.call_pure rfl (by decide) rfl rfl rfl rfl (fun _ => more_spec' _ m hm _) ?_)
        (refine US.on rfl rfl (by decide) rfl ?_; refine US.move rfl (by decide) rfl rfl rfl ?_)
        (refine US.on rfl rfl (by decide) rfl ?_; refine US.len_str rfl (by decide) rfl rfl Tryz.underlying9 rfl ?_)
        (refine US.on rfl rfl (by decide) rfl ?_; refine US.bin_int rfl (by decide) rfl rfl rfl rfl (r := .bool false) (by (simp [iop, sop, m1]; done)) ?_)
        refine Q.pk rfl rfl <| Q.nt <| UW.cond rfl (fun h => absurd h (by simp)) fun _ => ?_
        refine UW.skip <| UQ.then <| Q.rg <| Q.mv rfl <| US.index_str rfl (by decide) rfl rfl Tryz.underlying9 rfl rfl (by omega) (by omega) (c := (bt s 0 : Int)) (by rw [bt_at s 0 (by omega)]; rfl) <| ?_
        refine US.call_pure rfl (by decide) rfl rfl rfl rfl (fun _ => more_spec' _ m hm _) <| Q.as rfl <| Q.nt <| Q.rg <| Q.mv rfl <| US.index_str rfl (by decide) rfl rfl Tryz.underlying9 rfl rfl (by omega) (by omega) (c := (bt s 0 : Int)) (by rw [bt_at s 0 (by omega)]; rfl) <| ?_
        refine US.conv rfl (by decide) rfl rfl (by rw [Tryz.underlying5]; rfl) Tryz.underlying3 rfl (r := (bt s 0 : Int)) (IntWalk.i64_in _ (by omega)) <| ?_
        refine Q.as rfl <| Q.nt <| UW.seq <| Q.rg <| ?_
        obtain rfl | rfl | rfl | rfl : m = 0 ∨ m = 1 ∨ m = 2 ∨ m = 3 := by omega
        · have hone : oneV s = oneN s 0 0 ((bt s 0 : Int)) := by
            unfold oneV
            rw [if_neg h0, hm, if_neg (by omega), if_neg (by omega)]; rfl
          refine Q.mv rfl <| Q.bi rfl rfl rfl <| Q.nt <| UW.cond rfl (fun h => absurd h (by simp)) fun _ => ?_
          refine UW.skip <| UQ.then <| UW.seq <| Q.rg <| Q.as rfl <| Q.nt <| UW.block <| UW.loop (fun i : Nat => [(5, .v (.int .i64 ((i + 1 : Nat) : Int))), (3, .v (.int .i64 0)), (4, .v (.int .i64 (rAcc s ((bt s 0 : Int)) i))), (0, .v (.string s))]) (fun _ => []) (fun i => i ≤ 0 ∧ ∀ j, j < i → contB s (j + 1) = true) (fun i => 0 - i) 0 ⟨Nat.zero_le _, fun j h => absurd h (by omega)⟩ ⟨rfl, rfl, rfl, rfl, trivial⟩ (.refl _) <| ?_
          rintro i ⟨hi, hj⟩
          have hb := rAcc_le s ((bt s 0 : Int)) (by omega) (by omega) i (by omega)
          refine UW.seq <| Q.rg <| Q.mv rfl <| Q.mv rfl <| Q.bi rfl rfl rfl <| Q.nt <| ?_
          refine UW.cond rfl (fun h => ?_) (fun h => ?_)
          · have h := of_decide_eq_true h
            have hlt : i < 0 := by omega
            have hbi := bt_lt s (i + 1)
            have bad : contB s (i + 1) = false → (List.range 0).all (fun i => contB s (i + 1)) = false := fun hb => by
              rw [List.all_eq_false]
              exact ⟨i, List.mem_range.2 hlt, by simp [hb]⟩
            refine UW.skip <| UQ.then <| UW.seq <| UW.block <| UW.seq <| Q.rg <| ?_
            by_cases q1 : (bt s (i + 1) : Int) < 128
            · refine Q.mv rfl <| Q.mv rfl <| US.index_str rfl (by decide) rfl rfl Tryz.underlying9 rfl rfl (by omega) (by omega) (c := (bt s (i + 1) : Int)) (by rw [bt_at s (i + 1) (by omega)]; rfl) <| ?_
              refine US.bin_int rfl (by decide) rfl rfl rfl rfl (r := .bool true) (by (simp [iop, sop, q1]; done)) <| ?_
              refine Q.mv rfl <| Q.of <| Q.of <| Q.of <| Q.of <| Q.pk rfl rfl <| Q.nt <| ?_
              refine UW.cond rfl (fun _ => ?_) (fun h => absurd h (by simp))
              refine Q.rg <| Q.as rfl <| Q.nt <| UW.ret <| UQ.passR <| UQ.blockR <| UQ.passR <| UQ.passR <| UQ.blockR <| UQ.passR <| ?_
              refine retR [] (fun _ => res_tmp rfl rfl) (.refl _) fun hd => ⟨?_, rfl⟩
              rw [hone, oneN, bad (by unfold contB; rw [decide_eq_false (by omega : ¬ 128 ≤ bt s (i + 1))]; rfl)]; rfl
            · by_cases q2 : (bt s (i + 1) : Int) > 191
              · refine Q.mv rfl <| Q.mv rfl <| US.index_str rfl (by decide) rfl rfl Tryz.underlying9 rfl rfl (by omega) (by omega) (c := (bt s (i + 1) : Int)) (by rw [bt_at s (i + 1) (by omega)]; rfl) <| ?_
                refine US.bin_int rfl (by decide) rfl rfl rfl rfl (r := .bool false) (by (simp [iop, sop, q1]; done)) <| ?_
                refine Q.mv rfl <| ?_
                (refine US.on rfl rfl (by decide) rfl ?_; refine US.move rfl (by decide) rfl rfl rfl ?_)
                (refine US.on rfl rfl (by decide) rfl ?_; refine US.move rfl (by decide) rfl rfl rfl ?_)
                (refine US.on rfl rfl (by decide) rfl ?_; refine US.index_str rfl (by decide) rfl rfl Tryz.underlying9 rfl rfl (by omega) (by omega) (c := (bt s (i + 1) : Int)) (by rw [bt_at s (i + 1) (by omega)]; rfl) ?_)
                (refine US.on rfl rfl (by decide) rfl ?_; refine US.bin_int rfl (by decide) rfl rfl rfl rfl (r := .bool true) (by (simp [iop, sop, q2]; done)) ?_)
                refine Q.pk rfl rfl <| Q.nt <| ?_
                refine UW.cond rfl (fun _ => ?_) (fun h => absurd h (by simp))
                refine Q.rg <| Q.as rfl <| Q.nt <| UW.ret <| UQ.passR <| UQ.blockR <| UQ.passR <| UQ.passR <| UQ.blockR <| UQ.passR <| ?_
                refine retR [] (fun _ => res_tmp rfl rfl) (.refl _) fun hd => ⟨?_, rfl⟩
                rw [hone, oneN, bad (by unfold contB; rw [decide_eq_false (by omega : ¬ bt s (i + 1) ≤ 191), Bool.and_false])]; rfl
              · refine Q.mv rfl <| Q.mv rfl <| US.index_str rfl (by decide) rfl rfl Tryz.underlying9 rfl rfl (by omega) (by omega) (c := (bt s (i + 1) : Int)) (by rw [bt_at s (i + 1) (by omega)]; rfl) <| ?_
                refine US.bin_int rfl (by decide) rfl rfl rfl rfl (r := .bool false) (by (simp [iop, sop, q1]; done)) <| ?_
                refine Q.mv rfl <| ?_
                (refine US.on rfl rfl (by decide) rfl ?_; refine US.move rfl (by decide) rfl rfl rfl ?_)
                (refine US.on rfl rfl (by decide) rfl ?_; refine US.move rfl (by decide) rfl rfl rfl ?_)
                (refine US.on rfl rfl (by decide) rfl ?_; refine US.index_str rfl (by decide) rfl rfl Tryz.underlying9 rfl rfl (by omega) (by omega) (c := (bt s (i + 1) : Int)) (by rw [bt_at s (i + 1) (by omega)]; rfl) ?_)
                (refine US.on rfl rfl (by decide) rfl ?_; refine US.bin_int rfl (by decide) rfl rfl rfl rfl (r := .bool false) (by (simp [iop, sop, q2]; done)) ?_)
                refine Q.pk rfl rfl <| Q.nt <| UW.cond rfl (fun h => absurd h (by simp)) fun _ => ?_
                have ht0 : 0 ≤ (bt s (i + 1) : Int).tmod 64 := Int.tmod_nonneg _ (by omega)
                have ht1 : (bt s (i + 1) : Int).tmod 64 < 64 := Int.tmod_lt_of_pos _ (by decide)
                refine UW.skip <| UQ.then <| UW.region <| Q.mv rfl <| US.mul rfl (by decide) rfl rfl rfl rfl (r := 64 * rAcc s ((bt s 0 : Int)) i) (IntWalk.i64_in _ (by omega)) <| Q.mv rfl <| Q.mv rfl <| US.index_str rfl (by decide) rfl rfl Tryz.underlying9 rfl rfl (by omega) (by omega) (c := (bt s (i + 1) : Int)) (by rw [bt_at s (i + 1) (by omega)]; rfl) <| ?_
                refine Q.bi rfl rfl rfl <| US.conv rfl (by decide) rfl rfl (by rw [Tryz.underlying5]; rfl) Tryz.underlying3 rfl (r := (bt s (i + 1) : Int).tmod 64) (IntWalk.i64_in _ (by omega)) <| ?_
                refine US.add rfl (by decide) rfl rfl rfl rfl (r := rAcc s ((bt s 0 : Int)) (i + 1)) (IntWalk.i64_in _ (by omega)) <| Q.as rfl <| US.nil <| UQ.blockN <| UQ.then <| UW.region <| Q.mv rfl <| US.add rfl (by decide) rfl rfl rfl rfl (r := ((i + 1 + 1 : Nat) : Int)) (IntWalk.i64_in _ (by omega)) <| Q.as rfl <| ?_
                exact US.round (a' := i + 1) ⟨by omega, fun j h3 => by
                  by_cases hjk : j = i
                  · subst hjk; unfold contB; rw [decide_eq_true (by omega : 128 ≤ bt s (j + 1)), decide_eq_true (by omega : bt s (j + 1) ≤ 191)]; rfl
                  · exact hj j (by omega)⟩ (by omega) ⟨rfl, rfl, rfl, rfl, trivial⟩ (.refl _)
          · have h := of_decide_eq_false h
            have hin : i = 0 := by omega
            subst hin
            have hall : (List.range 0).all (fun i => contB s (i + 1)) = true := by
              rw [List.all_eq_true]
              exact fun j hjm => hj j (List.mem_range.1 hjm)
            have hone2 : oneV s = if goodR 0 (rAcc s ((bt s 0 : Int)) 0) then (0 : Int) + 1 else 0 := by rw [hone, oneN, hall]; rfl
            clear hj
            generalize rAcc s ((bt s 0 : Int)) 0 = r at hone2 hb ⊢
            refine UW.exit <| UQ.pass <| UQ.pass <| UQ.here <| UQ.then <| Q.rg <| US.lit_sl rfl (by decide) rfl rfl row135 (by decide) rfl rfl rfl (by exact lit_ok rfl) <| ?_
            refine Q.mv rfl <| US.indexAddr_sl rfl (by decide) rfl rfl sl135 rfl rfl (by omega) rfl rfl <| US.load_rp_cell rfl (by decide) rfl rfl rfl ty3 <| Q.as rfl <| Q.nt <| UW.seq <| Q.rg <| ?_
            by_cases p1 : r < 0
            · refine Q.mv rfl <| Q.mv rfl <| US.bin_int rfl (by decide) rfl rfl rfl rfl (r := .bool true) (by (simp [iop, sop, p1]; done)) <| ?_
              refine Q.mv rfl <| Q.of <| Q.of <| Q.of <| Q.ou <| Q.ou <| Q.of <| Q.pk rfl rfl <| Q.mv rfl <| Q.of <| Q.of <| Q.pk rfl rfl <| Q.nt <| ?_
              refine UW.cond rfl (fun _ => ?_) (fun h => absurd h (by simp))
              refine Q.rg <| Q.as rfl <| Q.nt <| UW.ret <| UQ.passR <| ?_
              refine retR [] (fun _ => res_tmp rfl rfl) (.refl _) fun hd => ⟨?_, rfl⟩
              rw [hone2, show goodR 0 r = false from by simp only [goodR, Bool.and_eq_true, Bool.and_eq_false_iff, Bool.not_eq_true', Bool.not_eq_false', decide_eq_true_eq, decide_eq_false_iff_not]; omega]; rfl
            · by_cases p2 : r ≥ 55296
              · by_cases p3 : r ≤ 57343
                · refine Q.mv rfl <| Q.mv rfl <| US.bin_int rfl (by decide) rfl rfl rfl rfl (r := .bool false) (by (simp [iop, sop, p1]; done)) <| ?_
                  refine Q.mv rfl <| ?_
                  (refine US.on rfl rfl (by decide) rfl ?_; refine US.move rfl (by decide) rfl rfl rfl ?_)
                  (refine US.on rfl rfl (by decide) rfl ?_; refine US.bin_int rfl (by decide) rfl rfl rfl rfl (r := .bool true) (by (simp [iop, sop, p2]; done)) ?_)
                  (refine US.on rfl rfl (by decide) rfl ?_; refine US.move rfl (by decide) rfl rfl rfl ?_)
                  (refine US.on rfl rfl (by decide) rfl ?_; refine US.move rfl (by decide) rfl rfl rfl ?_)
                  (refine US.on rfl rfl (by decide) rfl ?_; refine US.bin_int rfl (by decide) rfl rfl rfl rfl (r := .bool true) (by (simp [iop, sop, p3]; done)) ?_)
                  (refine US.on rfl rfl (by decide) rfl ?_; refine US.pick rfl (by decide) rfl rfl rfl rfl ?_)
                  refine Q.pk rfl rfl <| Q.mv rfl <| Q.of <| Q.of <| Q.pk rfl rfl <| Q.nt <| ?_
                  refine UW.cond rfl (fun _ => ?_) (fun h => absurd h (by simp))
                  refine Q.rg <| Q.as rfl <| Q.nt <| UW.ret <| UQ.passR <| ?_
                  refine retR [] (fun _ => res_tmp rfl rfl) (.refl _) fun hd => ⟨?_, rfl⟩
                  rw [hone2, show goodR 0 r = false from by simp only [goodR, Bool.and_eq_true, Bool.and_eq_false_iff, Bool.not_eq_true', Bool.not_eq_false', decide_eq_true_eq, decide_eq_false_iff_not]; omega]; rfl
                · by_cases p4 : r > 1114111
                  · refine Q.mv rfl <| Q.mv rfl <| US.bin_int rfl (by decide) rfl rfl rfl rfl (r := .bool false) (by (simp [iop, sop, p1]; done)) <| ?_
                    refine Q.mv rfl <| ?_
                    (refine US.on rfl rfl (by decide) rfl ?_; refine US.move rfl (by decide) rfl rfl rfl ?_)
                    (refine US.on rfl rfl (by decide) rfl ?_; refine US.bin_int rfl (by decide) rfl rfl rfl rfl (r := .bool true) (by (simp [iop, sop, p2]; done)) ?_)
                    (refine US.on rfl rfl (by decide) rfl ?_; refine US.move rfl (by decide) rfl rfl rfl ?_)
                    (refine US.on rfl rfl (by decide) rfl ?_; refine US.move rfl (by decide) rfl rfl rfl ?_)
                    (refine US.on rfl rfl (by decide) rfl ?_; refine US.bin_int rfl (by decide) rfl rfl rfl rfl (r := .bool false) (by (simp [iop, sop, p3]; done)) ?_)
                    (refine US.on rfl rfl (by decide) rfl ?_; refine US.pick rfl (by decide) rfl rfl rfl rfl ?_)
                    refine Q.pk rfl rfl <| Q.mv rfl <| ?_
                    (refine US.on rfl rfl (by decide) rfl ?_; refine US.move rfl (by decide) rfl rfl rfl ?_)
                    (refine US.on rfl rfl (by decide) rfl ?_; refine US.bin_int rfl (by decide) rfl rfl rfl rfl (r := .bool true) (by (simp [iop, sop, p4]; done)) ?_)
                    refine Q.pk rfl rfl <| Q.nt <| ?_
                    refine UW.cond rfl (fun _ => ?_) (fun h => absurd h (by simp))
                    refine Q.rg <| Q.as rfl <| Q.nt <| UW.ret <| UQ.passR <| ?_
                    refine retR [] (fun _ => res_tmp rfl rfl) (.refl _) fun hd => ⟨?_, rfl⟩
                    rw [hone2, show goodR 0 r = false from by simp only [goodR, Bool.and_eq_true, Bool.and_eq_false_iff, Bool.not_eq_true', Bool.not_eq_false', decide_eq_true_eq, decide_eq_false_iff_not]; omega]; rfl
                  · refine Q.mv rfl <| Q.mv rfl <| US.bin_int rfl (by decide) rfl rfl rfl rfl (r := .bool false) (by (simp [iop, sop, p1]; done)) <| ?_
                    refine Q.mv rfl <| ?_
                    (refine US.on rfl rfl (by decide) rfl ?_; refine US.move rfl (by decide) rfl rfl rfl ?_)
                    (refine US.on rfl rfl (by decide) rfl ?_; refine US.bin_int rfl (by decide) rfl rfl rfl rfl (r := .bool true) (by (simp [iop, sop, p2]; done)) ?_)
                    (refine US.on rfl rfl (by decide) rfl ?_; refine US.move rfl (by decide) rfl rfl rfl ?_)
                    (refine US.on rfl rfl (by decide) rfl ?_; refine US.move rfl (by decide) rfl rfl rfl ?_)
                    (refine US.on rfl rfl (by decide) rfl ?_; refine US.bin_int rfl (by decide) rfl rfl rfl rfl (r := .bool false) (by (simp [iop, sop, p3]; done)) ?_)
                    (refine US.on rfl rfl (by decide) rfl ?_; refine US.pick rfl (by decide) rfl rfl rfl rfl ?_)
                    refine Q.pk rfl rfl <| Q.mv rfl <| ?_
                    (refine US.on rfl rfl (by decide) rfl ?_; refine US.move rfl (by decide) rfl rfl rfl ?_)
                    (refine US.on rfl rfl (by decide) rfl ?_; refine US.bin_int rfl (by decide) rfl rfl rfl rfl (r := .bool false) (by (simp [iop, sop, p4]; done)) ?_)
                    refine Q.pk rfl rfl <| Q.nt <| UW.cond rfl (fun h => absurd h (by simp)) fun _ => ?_
                    refine UW.skip <| UQ.then <| Q.rg <| Q.mv rfl <| US.add rfl (by decide) rfl rfl rfl rfl (IntWalk.i64_in _ (by omega)) <| Q.as rfl <| Q.nt <| UW.ret <| ?_
                    refine retR [] (fun _ => res_tmp rfl rfl) (.refl _) fun hd => ⟨?_, rfl⟩
                    rw [hone2, show goodR 0 r = true from by simp only [goodR, Bool.and_eq_true, Bool.and_eq_false_iff, Bool.not_eq_true', Bool.not_eq_false', decide_eq_true_eq, decide_eq_false_iff_not]; omega]; rfl
              · by_cases p4 : r > 1114111
                · refine Q.mv rfl <| Q.mv rfl <| US.bin_int rfl (by decide) rfl rfl rfl rfl (r := .bool false) (by (simp [iop, sop, p1]; done)) <| ?_
                  refine Q.mv rfl <| ?_
                  (refine US.on rfl rfl (by decide) rfl ?_; refine US.move rfl (by decide) rfl rfl rfl ?_)
                  (refine US.on rfl rfl (by decide) rfl ?_; refine US.bin_int rfl (by decide) rfl rfl rfl rfl (r := .bool false) (by (simp [iop, sop, p2]; done)) ?_)
                  (refine US.on rfl rfl (by decide) rfl ?_; refine US.move rfl (by decide) rfl rfl rfl ?_)
                  refine Q.of <| Q.of <| ?_
                  (refine US.on rfl rfl (by decide) rfl ?_; refine US.pick rfl (by decide) rfl rfl rfl rfl ?_)
                  refine Q.pk rfl rfl <| Q.mv rfl <| ?_
                  (refine US.on rfl rfl (by decide) rfl ?_; refine US.move rfl (by decide) rfl rfl rfl ?_)
                  (refine US.on rfl rfl (by decide) rfl ?_; refine US.bin_int rfl (by decide) rfl rfl rfl rfl (r := .bool true) (by (simp [iop, sop, p4]; done)) ?_)
                  refine Q.pk rfl rfl <| Q.nt <| ?_
                  refine UW.cond rfl (fun _ => ?_) (fun h => absurd h (by simp))
                  refine Q.rg <| Q.as rfl <| Q.nt <| UW.ret <| UQ.passR <| ?_
                  refine retR [] (fun _ => res_tmp rfl rfl) (.refl _) fun hd => ⟨?_, rfl⟩
                  rw [hone2, show goodR 0 r = false from by simp only [goodR, Bool.and_eq_true, Bool.and_eq_false_iff, Bool.not_eq_true', Bool.not_eq_false', decide_eq_true_eq, decide_eq_false_iff_not]; omega]; rfl
                · refine Q.mv rfl <| Q.mv rfl <| US.bin_int rfl (by decide) rfl rfl rfl rfl (r := .bool false) (by (simp [iop, sop, p1]; done)) <| ?_
                  refine Q.mv rfl <| ?_
                  (refine US.on rfl rfl (by decide) rfl ?_; refine US.move rfl (by decide) rfl rfl rfl ?_)
                  (refine US.on rfl rfl (by decide) rfl ?_; refine US.bin_int rfl (by decide) rfl rfl rfl rfl (r := .bool false) (by (simp [iop, sop, p2]; done)) ?_)
                  (refine US.on rfl rfl (by decide) rfl ?_; refine US.move rfl (by decide) rfl rfl rfl ?_)
                  refine Q.of <| Q.of <| ?_
                  (refine US.on rfl rfl (by decide) rfl ?_; refine US.pick rfl (by decide) rfl rfl rfl rfl ?_)
                  refine Q.pk rfl rfl <| Q.mv rfl <| ?_
                  (refine US.on rfl rfl (by decide) rfl ?_; refine US.move rfl (by decide) rfl rfl rfl ?_)
                  (refine US.on rfl rfl (by decide) rfl ?_; refine US.bin_int rfl (by decide) rfl rfl rfl rfl (r := .bool false) (by (simp [iop, sop, p4]; done)) ?_)
                  refine Q.pk rfl rfl <| Q.nt <| UW.cond rfl (fun h => absurd h (by simp)) fun _ => ?_
                  refine UW.skip <| UQ.then <| Q.rg <| Q.mv rfl <| US.add rfl (by decide) rfl rfl rfl rfl (IntWalk.i64_in _ (by omega)) <| Q.as rfl <| Q.nt <| UW.ret <| ?_
                  refine retR [] (fun _ => res_tmp rfl rfl) (.refl _) fun hd => ⟨?_, rfl⟩
                  rw [hone2, show goodR 0 r = true from by simp only [goodR, Bool.and_eq_true, Bool.and_eq_false_iff, Bool.not_eq_true', Bool.not_eq_false', decide_eq_true_eq, decide_eq_false_iff_not]; omega]; rfl
        · have hone : oneV s = oneN s 1 128 ((bt s 0 : Int).tmod 32) := by
            unfold oneV
            rw [if_neg h0, hm, if_neg (by omega), if_neg (by omega)]; rfl
          have hr0 : 0 ≤ (bt s 0 : Int).tmod 32 := Int.tmod_nonneg _ (by omega)
          have hr1 : (bt s 0 : Int).tmod 32 < 32 := Int.tmod_lt_of_pos _ (by decide)
          refine Q.mv rfl <| Q.bi rfl rfl rfl <| Q.nt <| ?_
          refine UW.cond rfl (fun _ => ?_) (fun h => absurd h (by simp))
          refine UW.region <| Q.mv rfl <| Q.mv rfl <| US.conv rfl (by decide) rfl rfl (by rw [Tryz.underlying3]; rfl) Tryz.underlying86 rfl (r := 1) (by rfl) <| ?_
          refine US.bin_shr rfl (by decide) rfl rfl rfl rfl (by omega) rfl <| US.bin_int rfl (by decide) rfl rfl rfl rfl (r := .int .i64 ((bt s 0 : Int).tmod 32)) rfl <| Q.as rfl <| Q.nt <| UW.seq <| Q.rg <| Q.as rfl <| Q.nt <| UW.block <| UW.loop (fun i : Nat => [(5, .v (.int .i64 ((i + 1 : Nat) : Int))), (3, .v (.int .i64 1)), (4, .v (.int .i64 (rAcc s ((bt s 0 : Int).tmod 32) i))), (0, .v (.string s))]) (fun _ => []) (fun i => i ≤ 1 ∧ ∀ j, j < i → contB s (j + 1) = true) (fun i => 1 - i) 0 ⟨Nat.zero_le _, fun j h => absurd h (by omega)⟩ ⟨rfl, rfl, rfl, rfl, trivial⟩ (.refl _) <| ?_
          rintro i ⟨hi, hj⟩
          have hb := rAcc_le s ((bt s 0 : Int).tmod 32) (by omega) (by omega) i (by omega)
          refine UW.seq <| Q.rg <| Q.mv rfl <| Q.mv rfl <| Q.bi rfl rfl rfl <| Q.nt <| ?_
          refine UW.cond rfl (fun h => ?_) (fun h => ?_)
          · have h := of_decide_eq_true h
            have hlt : i < 1 := by omega
            have hbi := bt_lt s (i + 1)
            have bad : contB s (i + 1) = false → (List.range 1).all (fun i => contB s (i + 1)) = false := fun hb => by
              rw [List.all_eq_false]
              exact ⟨i, List.mem_range.2 hlt, by simp [hb]⟩
            refine UW.skip <| UQ.then <| UW.seq <| UW.block <| UW.seq <| Q.rg <| ?_
            by_cases q1 : (bt s (i + 1) : Int) < 128
            · refine Q.mv rfl <| Q.mv rfl <| US.index_str rfl (by decide) rfl rfl Tryz.underlying9 rfl rfl (by omega) (by omega) (c := (bt s (i + 1) : Int)) (by rw [bt_at s (i + 1) (by omega)]; rfl) <| ?_
              refine US.bin_int rfl (by decide) rfl rfl rfl rfl (r := .bool true) (by (simp [iop, sop, q1]; done)) <| ?_
              refine Q.mv rfl <| Q.of <| Q.of <| Q.of <| Q.of <| Q.pk rfl rfl <| Q.nt <| ?_
              refine UW.cond rfl (fun _ => ?_) (fun h => absurd h (by simp))
              refine Q.rg <| Q.as rfl <| Q.nt <| UW.ret <| UQ.passR <| UQ.blockR <| UQ.passR <| UQ.passR <| UQ.blockR <| UQ.passR <| ?_
              refine retR [] (fun _ => res_tmp rfl rfl) (.refl _) fun hd => ⟨?_, rfl⟩
              rw [hone, oneN, bad (by unfold contB; rw [decide_eq_false (by omega : ¬ 128 ≤ bt s (i + 1))]; rfl)]; rfl
            · by_cases q2 : (bt s (i + 1) : Int) > 191
              · refine Q.mv rfl <| Q.mv rfl <| US.index_str rfl (by decide) rfl rfl Tryz.underlying9 rfl rfl (by omega) (by omega) (c := (bt s (i + 1) : Int)) (by rw [bt_at s (i + 1) (by omega)]; rfl) <| ?_
                refine US.bin_int rfl (by decide) rfl rfl rfl rfl (r := .bool false) (by (simp [iop, sop, q1]; done)) <| ?_
                refine Q.mv rfl <| ?_
                (refine US.on rfl rfl (by decide) rfl ?_; refine US.move rfl (by decide) rfl rfl rfl ?_)
                (refine US.on rfl rfl (by decide) rfl ?_; refine US.move rfl (by decide) rfl rfl rfl ?_)
                (refine US.on rfl rfl (by decide) rfl ?_; refine US.index_str rfl (by decide) rfl rfl Tryz.underlying9 rfl rfl (by omega) (by omega) (c := (bt s (i + 1) : Int)) (by rw [bt_at s (i + 1) (by omega)]; rfl) ?_)
                (refine US.on rfl rfl (by decide) rfl ?_; refine US.bin_int rfl (by decide) rfl rfl rfl rfl (r := .bool true) (by (simp [iop, sop, q2]; done)) ?_)
                refine Q.pk rfl rfl <| Q.nt <| ?_
                refine UW.cond rfl (fun _ => ?_) (fun h => absurd h (by simp))
                refine Q.rg <| Q.as rfl <| Q.nt <| UW.ret <| UQ.passR <| UQ.blockR <| UQ.passR <| UQ.passR <| UQ.blockR <| UQ.passR <| ?_
                refine retR [] (fun _ => res_tmp rfl rfl) (.refl _) fun hd => ⟨?_, rfl⟩
                rw [hone, oneN, bad (by unfold contB; rw [decide_eq_false (by omega : ¬ bt s (i + 1) ≤ 191), Bool.and_false])]; rfl
              · refine Q.mv rfl <| Q.mv rfl <| US.index_str rfl (by decide) rfl rfl Tryz.underlying9 rfl rfl (by omega) (by omega) (c := (bt s (i + 1) : Int)) (by rw [bt_at s (i + 1) (by omega)]; rfl) <| ?_
                refine US.bin_int rfl (by decide) rfl rfl rfl rfl (r := .bool false) (by (simp [iop, sop, q1]; done)) <| ?_
                refine Q.mv rfl <| ?_
                (refine US.on rfl rfl (by decide) rfl ?_; refine US.move rfl (by decide) rfl rfl rfl ?_)
                (refine US.on rfl rfl (by decide) rfl ?_; refine US.move rfl (by decide) rfl rfl rfl ?_)
                (refine US.on rfl rfl (by decide) rfl ?_; refine US.index_str rfl (by decide) rfl rfl Tryz.underlying9 rfl rfl (by omega) (by omega) (c := (bt s (i + 1) : Int)) (by rw [bt_at s (i + 1) (by omega)]; rfl) ?_)
                (refine US.on rfl rfl (by decide) rfl ?_; refine US.bin_int rfl (by decide) rfl rfl rfl rfl (r := .bool false) (by (simp [iop, sop, q2]; done)) ?_)
                refine Q.pk rfl rfl <| Q.nt <| UW.cond rfl (fun h => absurd h (by simp)) fun _ => ?_
                have ht0 : 0 ≤ (bt s (i + 1) : Int).tmod 64 := Int.tmod_nonneg _ (by omega)
                have ht1 : (bt s (i + 1) : Int).tmod 64 < 64 := Int.tmod_lt_of_pos _ (by decide)
                refine UW.skip <| UQ.then <| UW.region <| Q.mv rfl <| US.mul rfl (by decide) rfl rfl rfl rfl (r := 64 * rAcc s ((bt s 0 : Int).tmod 32) i) (IntWalk.i64_in _ (by omega)) <| Q.mv rfl <| Q.mv rfl <| US.index_str rfl (by decide) rfl rfl Tryz.underlying9 rfl rfl (by omega) (by omega) (c := (bt s (i + 1) : Int)) (by rw [bt_at s (i + 1) (by omega)]; rfl) <| ?_
                refine Q.bi rfl rfl rfl <| US.conv rfl (by decide) rfl rfl (by rw [Tryz.underlying5]; rfl) Tryz.underlying3 rfl (r := (bt s (i + 1) : Int).tmod 64) (IntWalk.i64_in _ (by omega)) <| ?_
                refine US.add rfl (by decide) rfl rfl rfl rfl (r := rAcc s ((bt s 0 : Int).tmod 32) (i + 1)) (IntWalk.i64_in _ (by omega)) <| Q.as rfl <| US.nil <| UQ.blockN <| UQ.then <| UW.region <| Q.mv rfl <| US.add rfl (by decide) rfl rfl rfl rfl (r := ((i + 1 + 1 : Nat) : Int)) (IntWalk.i64_in _ (by omega)) <| Q.as rfl <| ?_
                exact US.round (a' := i + 1) ⟨by omega, fun j h3 => by
                  by_cases hjk : j = i
                  · subst hjk; unfold contB; rw [decide_eq_true (by omega : 128 ≤ bt s (j + 1)), decide_eq_true (by omega : bt s (j + 1) ≤ 191)]; rfl
                  · exact hj j (by omega)⟩ (by omega) ⟨rfl, rfl, rfl, rfl, trivial⟩ (.refl _)
          · have h := of_decide_eq_false h
            have hin : i = 1 := by omega
            subst hin
            have hall : (List.range 1).all (fun i => contB s (i + 1)) = true := by
              rw [List.all_eq_true]
              exact fun j hjm => hj j (List.mem_range.1 hjm)
            have hone2 : oneV s = if goodR 128 (rAcc s ((bt s 0 : Int).tmod 32) 1) then (1 : Int) + 1 else 0 := by rw [hone, oneN, hall]; rfl
            clear hj
            generalize rAcc s ((bt s 0 : Int).tmod 32) 1 = r at hone2 hb ⊢
            refine UW.exit <| UQ.pass <| UQ.pass <| UQ.here <| UQ.then <| Q.rg <| US.lit_sl rfl (by decide) rfl rfl row135 (by decide) rfl rfl rfl (by exact lit_ok rfl) <| ?_
            refine Q.mv rfl <| US.indexAddr_sl rfl (by decide) rfl rfl sl135 rfl rfl (by omega) rfl rfl <| US.load_rp_cell rfl (by decide) rfl rfl rfl ty3 <| Q.as rfl <| Q.nt <| UW.seq <| Q.rg <| ?_
            by_cases p1 : r < 128
            · refine Q.mv rfl <| Q.mv rfl <| US.bin_int rfl (by decide) rfl rfl rfl rfl (r := .bool true) (by (simp [iop, sop, p1]; done)) <| ?_
              refine Q.mv rfl <| Q.of <| Q.of <| Q.of <| Q.ou <| Q.ou <| Q.of <| Q.pk rfl rfl <| Q.mv rfl <| Q.of <| Q.of <| Q.pk rfl rfl <| Q.nt <| ?_
              refine UW.cond rfl (fun _ => ?_) (fun h => absurd h (by simp))
              refine Q.rg <| Q.as rfl <| Q.nt <| UW.ret <| UQ.passR <| ?_
              refine retR [] (fun _ => res_tmp rfl rfl) (.refl _) fun hd => ⟨?_, rfl⟩
              rw [hone2, show goodR 128 r = false from by simp only [goodR, Bool.and_eq_true, Bool.and_eq_false_iff, Bool.not_eq_true', Bool.not_eq_false', decide_eq_true_eq, decide_eq_false_iff_not]; omega]; rfl
            · by_cases p2 : r ≥ 55296
              · by_cases p3 : r ≤ 57343
                · refine Q.mv rfl <| Q.mv rfl <| US.bin_int rfl (by decide) rfl rfl rfl rfl (r := .bool false) (by (simp [iop, sop, p1]; done)) <| ?_
                  refine Q.mv rfl <| ?_
                  (refine US.on rfl rfl (by decide) rfl ?_; refine US.move rfl (by decide) rfl rfl rfl ?_)
                  (refine US.on rfl rfl (by decide) rfl ?_; refine US.bin_int rfl (by decide) rfl rfl rfl rfl (r := .bool true) (by (simp [iop, sop, p2]; done)) ?_)
                  (refine US.on rfl rfl (by decide) rfl ?_; refine US.move rfl (by decide) rfl rfl rfl ?_)
                  (refine US.on rfl rfl (by decide) rfl ?_; refine US.move rfl (by decide) rfl rfl rfl ?_)
                  (refine US.on rfl rfl (by decide) rfl ?_; refine US.bin_int rfl (by decide) rfl rfl rfl rfl (r := .bool true) (by (simp [iop, sop, p3]; done)) ?_)
                  (refine US.on rfl rfl (by decide) rfl ?_; refine US.pick rfl (by decide) rfl rfl rfl rfl ?_)
                  refine Q.pk rfl rfl <| Q.mv rfl <| Q.of <| Q.of <| Q.pk rfl rfl <| Q.nt <| ?_
                  refine UW.cond rfl (fun _ => ?_) (fun h => absurd h (by simp))
                  refine Q.rg <| Q.as rfl <| Q.nt <| UW.ret <| UQ.passR <| ?_
                  refine retR [] (fun _ => res_tmp rfl rfl) (.refl _) fun hd => ⟨?_, rfl⟩
                  rw [hone2, show goodR 128 r = false from by simp only [goodR, Bool.and_eq_true, Bool.and_eq_false_iff, Bool.not_eq_true', Bool.not_eq_false', decide_eq_true_eq, decide_eq_false_iff_not]; omega]; rfl
                · by_cases p4 : r > 1114111
                  · refine Q.mv rfl <| Q.mv rfl <| US.bin_int rfl (by decide) rfl rfl rfl rfl (r := .bool false) (by (simp [iop, sop, p1]; done)) <| ?_
                    refine Q.mv rfl <| ?_
                    (refine US.on rfl rfl (by decide) rfl ?_; refine US.move rfl (by decide) rfl rfl rfl ?_)
                    (refine US.on rfl rfl (by decide) rfl ?_; refine US.bin_int rfl (by decide) rfl rfl rfl rfl (r := .bool true) (by (simp [iop, sop, p2]; done)) ?_)
                    (refine US.on rfl rfl (by decide) rfl ?_; refine US.move rfl (by decide) rfl rfl rfl ?_)
                    (refine US.on rfl rfl (by decide) rfl ?_; refine US.move rfl (by decide) rfl rfl rfl ?_)
                    (refine US.on rfl rfl (by decide) rfl ?_; refine US.bin_int rfl (by decide) rfl rfl rfl rfl (r := .bool false) (by (simp [iop, sop, p3]; done)) ?_)
                    (refine US.on rfl rfl (by decide) rfl ?_; refine US.pick rfl (by decide) rfl rfl rfl rfl ?_)
                    refine Q.pk rfl rfl <| Q.mv rfl <| ?_
                    (refine US.on rfl rfl (by decide) rfl ?_; refine US.move rfl (by decide) rfl rfl rfl ?_)
                    (refine US.on rfl rfl (by decide) rfl ?_; refine US.bin_int rfl (by decide) rfl rfl rfl rfl (r := .bool true) (by (simp [iop, sop, p4]; done)) ?_)
                    refine Q.pk rfl rfl <| Q.nt <| ?_
                    refine UW.cond rfl (fun _ => ?_) (fun h => absurd h (by simp))
                    refine Q.rg <| Q.as rfl <| Q.nt <| UW.ret <| UQ.passR <| ?_
                    refine retR [] (fun _ => res_tmp rfl rfl) (.refl _) fun hd => ⟨?_, rfl⟩
                    rw [hone2, show goodR 128 r = false from by simp only [goodR, Bool.and_eq_true, Bool.and_eq_false_iff, Bool.not_eq_true', Bool.not_eq_false', decide_eq_true_eq, decide_eq_false_iff_not]; omega]; rfl
                  · refine Q.mv rfl <| Q.mv rfl <| US.bin_int rfl (by decide) rfl rfl rfl rfl (r := .bool false) (by (simp [iop, sop, p1]; done)) <| ?_
                    refine Q.mv rfl <| ?_
                    (refine US.on rfl rfl (by decide) rfl ?_; refine US.move rfl (by decide) rfl rfl rfl ?_)
                    (refine US.on rfl rfl (by decide) rfl ?_; refine US.bin_int rfl (by decide) rfl rfl rfl rfl (r := .bool true) (by (simp [iop, sop, p2]; done)) ?_)
                    (refine US.on rfl rfl (by decide) rfl ?_; refine US.move rfl (by decide) rfl rfl rfl ?_)
                    (refine US.on rfl rfl (by decide) rfl ?_; refine US.move rfl (by decide) rfl rfl rfl ?_)
                    (refine US.on rfl rfl (by decide) rfl ?_; refine US.bin_int rfl (by decide) rfl rfl rfl rfl (r := .bool false) (by (simp [iop, sop, p3]; done)) ?_)
                    (refine US.on rfl rfl (by decide) rfl ?_; refine US.pick rfl (by decide) rfl rfl rfl rfl ?_)
                    refine Q.pk rfl rfl <| Q.mv rfl <| ?_
                    (refine US.on rfl rfl (by decide) rfl ?_; refine US.move rfl (by decide) rfl rfl rfl ?_)
                    (refine US.on rfl rfl (by decide) rfl ?_; refine US.bin_int rfl (by decide) rfl rfl rfl rfl (r := .bool false) (by (simp [iop, sop, p4]; done)) ?_)
                    refine Q.pk rfl rfl <| Q.nt <| UW.cond rfl (fun h => absurd h (by simp)) fun _ => ?_
                    refine UW.skip <| UQ.then <| Q.rg <| Q.mv rfl <| US.add rfl (by decide) rfl rfl rfl rfl (IntWalk.i64_in _ (by omega)) <| Q.as rfl <| Q.nt <| UW.ret <| ?_
                    refine retR [] (fun _ => res_tmp rfl rfl) (.refl _) fun hd => ⟨?_, rfl⟩
                    rw [hone2, show goodR 128 r = true from by simp only [goodR, Bool.and_eq_true, Bool.and_eq_false_iff, Bool.not_eq_true', Bool.not_eq_false', decide_eq_true_eq, decide_eq_false_iff_not]; omega]; rfl
              · by_cases p4 : r > 1114111
                · refine Q.mv rfl <| Q.mv rfl <| US.bin_int rfl (by decide) rfl rfl rfl rfl (r := .bool false) (by (simp [iop, sop, p1]; done)) <| ?_
                  refine Q.mv rfl <| ?_
                  (refine US.on rfl rfl (by decide) rfl ?_; refine US.move rfl (by decide) rfl rfl rfl ?_)
                  (refine US.on rfl rfl (by decide) rfl ?_; refine US.bin_int rfl (by decide) rfl rfl rfl rfl (r := .bool false) (by (simp [iop, sop, p2]; done)) ?_)
                  (refine US.on rfl rfl (by decide) rfl ?_; refine US.move rfl (by decide) rfl rfl rfl ?_)
                  refine Q.of <| Q.of <| ?_
                  (refine US.on rfl rfl (by decide) rfl ?_; refine US.pick rfl (by decide) rfl rfl rfl rfl ?_)
                  refine Q.pk rfl rfl <| Q.mv rfl <| ?_
                  (refine US.on rfl rfl (by decide) rfl ?_; refine US.move rfl (by decide) rfl rfl rfl ?_)
                  (refine US.on rfl rfl (by decide) rfl ?_; refine US.bin_int rfl (by decide) rfl rfl rfl rfl (r := .bool true) (by (simp [iop, sop, p4]; done)) ?_)
                  refine Q.pk rfl rfl <| Q.nt <| ?_
                  refine UW.cond rfl (fun _ => ?_) (fun h => absurd h (by simp))
                  refine Q.rg <| Q.as rfl <| Q.nt <| UW.ret <| UQ.passR <| ?_
                  refine retR [] (fun _ => res_tmp rfl rfl) (.refl _) fun hd => ⟨?_, rfl⟩
                  rw [hone2, show goodR 128 r = false from by simp only [goodR, Bool.and_eq_true, Bool.and_eq_false_iff, Bool.not_eq_true', Bool.not_eq_false', decide_eq_true_eq, decide_eq_false_iff_not]; omega]; rfl
                · refine Q.mv rfl <| Q.mv rfl <| US.bin_int rfl (by decide) rfl rfl rfl rfl (r := .bool false) (by (simp [iop, sop, p1]; done)) <| ?_
                  refine Q.mv rfl <| ?_
                  (refine US.on rfl rfl (by decide) rfl ?_; refine US.move rfl (by decide) rfl rfl rfl ?_)
                  (refine US.on rfl rfl (by decide) rfl ?_; refine US.bin_int rfl (by decide) rfl rfl rfl rfl (r := .bool false) (by (simp [iop, sop, p2]; done)) ?_)
                  (refine US.on rfl rfl (by decide) rfl ?_; refine US.move rfl (by decide) rfl rfl rfl ?_)
                  refine Q.of <| Q.of <| ?_
                  (refine US.on rfl rfl (by decide) rfl ?_; refine US.pick rfl (by decide) rfl rfl rfl rfl ?_)
                  refine Q.pk rfl rfl <| Q.mv rfl <| ?_
                  (refine US.on rfl rfl (by decide) rfl ?_; refine US.move rfl (by decide) rfl rfl rfl ?_)
                  (refine US.on rfl rfl (by decide) rfl ?_; refine US.bin_int rfl (by decide) rfl rfl rfl rfl (r := .bool false) (by (simp [iop, sop, p4]; done)) ?_)
                  refine Q.pk rfl rfl <| Q.nt <| UW.cond rfl (fun h => absurd h (by simp)) fun _ => ?_
                  refine UW.skip <| UQ.then <| Q.rg <| Q.mv rfl <| US.add rfl (by decide) rfl rfl rfl rfl (IntWalk.i64_in _ (by omega)) <| Q.as rfl <| Q.nt <| UW.ret <| ?_
                  refine retR [] (fun _ => res_tmp rfl rfl) (.refl _) fun hd => ⟨?_, rfl⟩
                  rw [hone2, show goodR 128 r = true from by simp only [goodR, Bool.and_eq_true, Bool.and_eq_false_iff, Bool.not_eq_true', Bool.not_eq_false', decide_eq_true_eq, decide_eq_false_iff_not]; omega]; rfl
        · have hone : oneV s = oneN s 2 2048 ((bt s 0 : Int).tmod 16) := by
            unfold oneV
            rw [if_neg h0, hm, if_neg (by omega), if_neg (by omega)]; rfl
          have hr0 : 0 ≤ (bt s 0 : Int).tmod 16 := Int.tmod_nonneg _ (by omega)
          have hr1 : (bt s 0 : Int).tmod 16 < 16 := Int.tmod_lt_of_pos _ (by decide)
          refine Q.mv rfl <| Q.bi rfl rfl rfl <| Q.nt <| ?_
          refine UW.cond rfl (fun _ => ?_) (fun h => absurd h (by simp))
          refine UW.region <| Q.mv rfl <| Q.mv rfl <| US.conv rfl (by decide) rfl rfl (by rw [Tryz.underlying3]; rfl) Tryz.underlying86 rfl (r := 2) (by rfl) <| ?_
          refine US.bin_shr rfl (by decide) rfl rfl rfl rfl (by omega) rfl <| US.bin_int rfl (by decide) rfl rfl rfl rfl (r := .int .i64 ((bt s 0 : Int).tmod 16)) rfl <| Q.as rfl <| Q.nt <| UW.seq <| Q.rg <| Q.as rfl <| Q.nt <| UW.block <| UW.loop (fun i : Nat => [(5, .v (.int .i64 ((i + 1 : Nat) : Int))), (3, .v (.int .i64 2)), (4, .v (.int .i64 (rAcc s ((bt s 0 : Int).tmod 16) i))), (0, .v (.string s))]) (fun _ => []) (fun i => i ≤ 2 ∧ ∀ j, j < i → contB s (j + 1) = true) (fun i => 2 - i) 0 ⟨Nat.zero_le _, fun j h => absurd h (by omega)⟩ ⟨rfl, rfl, rfl, rfl, trivial⟩ (.refl _) <| ?_
          rintro i ⟨hi, hj⟩
          have hb := rAcc_le s ((bt s 0 : Int).tmod 16) (by omega) (by omega) i (by omega)
          refine UW.seq <| Q.rg <| Q.mv rfl <| Q.mv rfl <| Q.bi rfl rfl rfl <| Q.nt <| ?_
          refine UW.cond rfl (fun h => ?_) (fun h => ?_)
          · have h := of_decide_eq_true h
            have hlt : i < 2 := by omega
            have hbi := bt_lt s (i + 1)
            have bad : contB s (i + 1) = false → (List.range 2).all (fun i => contB s (i + 1)) = false := fun hb => by
              rw [List.all_eq_false]
              exact ⟨i, List.mem_range.2 hlt, by simp [hb]⟩
            refine UW.skip <| UQ.then <| UW.seq <| UW.block <| UW.seq <| Q.rg <| ?_
            by_cases q1 : (bt s (i + 1) : Int) < 128
            · refine Q.mv rfl <| Q.mv rfl <| US.index_str rfl (by decide) rfl rfl Tryz.underlying9 rfl rfl (by omega) (by omega) (c := (bt s (i + 1) : Int)) (by rw [bt_at s (i + 1) (by omega)]; rfl) <| ?_
              refine US.bin_int rfl (by decide) rfl rfl rfl rfl (r := .bool true) (by (simp [iop, sop, q1]; done)) <| ?_
              refine Q.mv rfl <| Q.of <| Q.of <| Q.of <| Q.of <| Q.pk rfl rfl <| Q.nt <| ?_
              refine UW.cond rfl (fun _ => ?_) (fun h => absurd h (by simp))
              refine Q.rg <| Q.as rfl <| Q.nt <| UW.ret <| UQ.passR <| UQ.blockR <| UQ.passR <| UQ.passR <| UQ.blockR <| UQ.passR <| ?_
              refine retR [] (fun _ => res_tmp rfl rfl) (.refl _) fun hd => ⟨?_, rfl⟩
              rw [hone, oneN, bad (by unfold contB; rw [decide_eq_false (by omega : ¬ 128 ≤ bt s (i + 1))]; rfl)]; rfl
            · by_cases q2 : (bt s (i + 1) : Int) > 191
              · refine Q.mv rfl <| Q.mv rfl <| US.index_str rfl (by decide) rfl rfl Tryz.underlying9 rfl rfl (by omega) (by omega) (c := (bt s (i + 1) : Int)) (by rw [bt_at s (i + 1) (by omega)]; rfl) <| ?_
                refine US.bin_int rfl (by decide) rfl rfl rfl rfl (r := .bool false) (by (simp [iop, sop, q1]; done)) <| ?_
                refine Q.mv rfl <| ?_
                (refine US.on rfl rfl (by decide) rfl ?_; refine US.move rfl (by decide) rfl rfl rfl ?_)
                (refine US.on rfl rfl (by decide) rfl ?_; refine US.move rfl (by decide) rfl rfl rfl ?_)
                (refine US.on rfl rfl (by decide) rfl ?_; refine US.index_str rfl (by decide) rfl rfl Tryz.underlying9 rfl rfl (by omega) (by omega) (c := (bt s (i + 1) : Int)) (by rw [bt_at s (i + 1) (by omega)]; rfl) ?_)
                (refine US.on rfl rfl (by decide) rfl ?_; refine US.bin_int rfl (by decide) rfl rfl rfl rfl (r := .bool true) (by (simp [iop, sop, q2]; done)) ?_)
                refine Q.pk rfl rfl <| Q.nt <| ?_
                refine UW.cond rfl (fun _ => ?_) (fun h => absurd h (by simp))
                refine Q.rg <| Q.as rfl <| Q.nt <| UW.ret <| UQ.passR <| UQ.blockR <| UQ.passR <| UQ.passR <| UQ.blockR <| UQ.passR <| ?_
                refine retR [] (fun _ => res_tmp rfl rfl) (.refl _) fun hd => ⟨?_, rfl⟩
                rw [hone, oneN, bad (by unfold contB; rw [decide_eq_false (by omega : ¬ bt s (i + 1) ≤ 191), Bool.and_false])]; rfl
              · refine Q.mv rfl <| Q.mv rfl <| US.index_str rfl (by decide) rfl rfl Tryz.underlying9 rfl rfl (by omega) (by omega) (c := (bt s (i + 1) : Int)) (by rw [bt_at s (i + 1) (by omega)]; rfl) <| ?_
                refine US.bin_int rfl (by decide) rfl rfl rfl rfl (r := .bool false) (by (simp [iop, sop, q1]; done)) <| ?_
                refine Q.mv rfl <| ?_
                (refine US.on rfl rfl (by decide) rfl ?_; refine US.move rfl (by decide) rfl rfl rfl ?_)
                (refine US.on rfl rfl (by decide) rfl ?_; refine US.move rfl (by decide) rfl rfl rfl ?_)
                (refine US.on rfl rfl (by decide) rfl ?_; refine US.index_str rfl (by decide) rfl rfl Tryz.underlying9 rfl rfl (by omega) (by omega) (c := (bt s (i + 1) : Int)) (by rw [bt_at s (i + 1) (by omega)]; rfl) ?_)
                (refine US.on rfl rfl (by decide) rfl ?_; refine US.bin_int rfl (by decide) rfl rfl rfl rfl (r := .bool false) (by (simp [iop, sop, q2]; done)) ?_)
                refine Q.pk rfl rfl <| Q.nt <| UW.cond rfl (fun h => absurd h (by simp)) fun _ => ?_
                have ht0 : 0 ≤ (bt s (i + 1) : Int).tmod 64 := Int.tmod_nonneg _ (by omega)
                have ht1 : (bt s (i + 1) : Int).tmod 64 < 64 := Int.tmod_lt_of_pos _ (by decide)
                refine UW.skip <| UQ.then <| UW.region <| Q.mv rfl <| US.mul rfl (by decide) rfl rfl rfl rfl (r := 64 * rAcc s ((bt s 0 : Int).tmod 16) i) (IntWalk.i64_in _ (by omega)) <| Q.mv rfl <| Q.mv rfl <| US.index_str rfl (by decide) rfl rfl Tryz.underlying9 rfl rfl (by omega) (by omega) (c := (bt s (i + 1) : Int)) (by rw [bt_at s (i + 1) (by omega)]; rfl) <| ?_
                refine Q.bi rfl rfl rfl <| US.conv rfl (by decide) rfl rfl (by rw [Tryz.underlying5]; rfl) Tryz.underlying3 rfl (r := (bt s (i + 1) : Int).tmod 64) (IntWalk.i64_in _ (by omega)) <| ?_
                refine US.add rfl (by decide) rfl rfl rfl rfl (r := rAcc s ((bt s 0 : Int).tmod 16) (i + 1)) (IntWalk.i64_in _ (by omega)) <| Q.as rfl <| US.nil <| UQ.blockN <| UQ.then <| UW.region <| Q.mv rfl <| US.add rfl (by decide) rfl rfl rfl rfl (r := ((i + 1 + 1 : Nat) : Int)) (IntWalk.i64_in _ (by omega)) <| Q.as rfl <| ?_
                exact US.round (a' := i + 1) ⟨by omega, fun j h3 => by
                  by_cases hjk : j = i
                  · subst hjk; unfold contB; rw [decide_eq_true (by omega : 128 ≤ bt s (j + 1)), decide_eq_true (by omega : bt s (j + 1) ≤ 191)]; rfl
                  · exact hj j (by omega)⟩ (by omega) ⟨rfl, rfl, rfl, rfl, trivial⟩ (.refl _)
          · have h := of_decide_eq_false h
            have hin : i = 2 := by omega
            subst hin
            have hall : (List.range 2).all (fun i => contB s (i + 1)) = true := by
              rw [List.all_eq_true]
              exact fun j hjm => hj j (List.mem_range.1 hjm)
            have hone2 : oneV s = if goodR 2048 (rAcc s ((bt s 0 : Int).tmod 16) 2) then (2 : Int) + 1 else 0 := by rw [hone, oneN, hall]; rfl
            clear hj
            generalize rAcc s ((bt s 0 : Int).tmod 16) 2 = r at hone2 hb ⊢
            refine UW.exit <| UQ.pass <| UQ.pass <| UQ.here <| UQ.then <| Q.rg <| US.lit_sl rfl (by decide) rfl rfl row135 (by decide) rfl rfl rfl (by exact lit_ok rfl) <| ?_
            refine Q.mv rfl <| US.indexAddr_sl rfl (by decide) rfl rfl sl135 rfl rfl (by omega) rfl rfl <| US.load_rp_cell rfl (by decide) rfl rfl rfl ty3 <| Q.as rfl <| Q.nt <| UW.seq <| Q.rg <| ?_
            by_cases p1 : r < 2048
            · refine Q.mv rfl <| Q.mv rfl <| US.bin_int rfl (by decide) rfl rfl rfl rfl (r := .bool true) (by (simp [iop, sop, p1]; done)) <| ?_
              refine Q.mv rfl <| Q.of <| Q.of <| Q.of <| Q.ou <| Q.ou <| Q.of <| Q.pk rfl rfl <| Q.mv rfl <| Q.of <| Q.of <| Q.pk rfl rfl <| Q.nt <| ?_
              refine UW.cond rfl (fun _ => ?_) (fun h => absurd h (by simp))
              refine Q.rg <| Q.as rfl <| Q.nt <| UW.ret <| UQ.passR <| ?_
              refine retR [] (fun _ => res_tmp rfl rfl) (.refl _) fun hd => ⟨?_, rfl⟩
              rw [hone2, show goodR 2048 r = false from by simp only [goodR, Bool.and_eq_true, Bool.and_eq_false_iff, Bool.not_eq_true', Bool.not_eq_false', decide_eq_true_eq, decide_eq_false_iff_not]; omega]; rfl
            · by_cases p2 : r ≥ 55296
              · by_cases p3 : r ≤ 57343
                · refine Q.mv rfl <| Q.mv rfl <| US.bin_int rfl (by decide) rfl rfl rfl rfl (r := .bool false) (by (simp [iop, sop, p1]; done)) <| ?_
                  refine Q.mv rfl <| ?_
                  (refine US.on rfl rfl (by decide) rfl ?_; refine US.move rfl (by decide) rfl rfl rfl ?_)
                  (refine US.on rfl rfl (by decide) rfl ?_; refine US.bin_int rfl (by decide) rfl rfl rfl rfl (r := .bool true) (by (simp [iop, sop, p2]; done)) ?_)
                  (refine US.on rfl rfl (by decide) rfl ?_; refine US.move rfl (by decide) rfl rfl rfl ?_)
                  (refine US.on rfl rfl (by decide) rfl ?_; refine US.move rfl (by decide) rfl rfl rfl ?_)
                  (refine US.on rfl rfl (by decide) rfl ?_; refine US.bin_int rfl (by decide) rfl rfl rfl rfl (r := .bool true) (by (simp [iop, sop, p3]; done)) ?_)
                  (refine US.on rfl rfl (by decide) rfl ?_; refine US.pick rfl (by decide) rfl rfl rfl rfl ?_)
                  refine Q.pk rfl rfl <| Q.mv rfl <| Q.of <| Q.of <| Q.pk rfl rfl <| Q.nt <| ?_
                  refine UW.cond rfl (fun _ => ?_) (fun h => absurd h (by simp))
                  refine Q.rg <| Q.as rfl <| Q.nt <| UW.ret <| UQ.passR <| ?_
                  refine retR [] (fun _ => res_tmp rfl rfl) (.refl _) fun hd => ⟨?_, rfl⟩
                  rw [hone2, show goodR 2048 r = false from by simp only [goodR, Bool.and_eq_true, Bool.and_eq_false_iff, Bool.not_eq_true', Bool.not_eq_false', decide_eq_true_eq, decide_eq_false_iff_not]; omega]; rfl
                · by_cases p4 : r > 1114111
                  · refine Q.mv rfl <| Q.mv rfl <| US.bin_int rfl (by decide) rfl rfl rfl rfl (r := .bool false) (by (simp [iop, sop, p1]; done)) <| ?_
                    refine Q.mv rfl <| ?_
                    (refine US.on rfl rfl (by decide) rfl ?_; refine US.move rfl (by decide) rfl rfl rfl ?_)
                    (refine US.on rfl rfl (by decide) rfl ?_; refine US.bin_int rfl (by decide) rfl rfl rfl rfl (r := .bool true) (by (simp [iop, sop, p2]; done)) ?_)
                    (refine US.on rfl rfl (by decide) rfl ?_; refine US.move rfl (by decide) rfl rfl rfl ?_)
                    (refine US.on rfl rfl (by decide) rfl ?_; refine US.move rfl (by decide) rfl rfl rfl ?_)
                    (refine US.on rfl rfl (by decide) rfl ?_; refine US.bin_int rfl (by decide) rfl rfl rfl rfl (r := .bool false) (by (simp [iop, sop, p3]; done)) ?_)
                    (refine US.on rfl rfl (by decide) rfl ?_; refine US.pick rfl (by decide) rfl rfl rfl rfl ?_)
                    refine Q.pk rfl rfl <| Q.mv rfl <| ?_
                    (refine US.on rfl rfl (by decide) rfl ?_; refine US.move rfl (by decide) rfl rfl rfl ?_)
                    (refine US.on rfl rfl (by decide) rfl ?_; refine US.bin_int rfl (by decide) rfl rfl rfl rfl (r := .bool true) (by (simp [iop, sop, p4]; done)) ?_)
                    refine Q.pk rfl rfl <| Q.nt <| ?_
                    refine UW.cond rfl (fun _ => ?_) (fun h => absurd h (by simp))
                    refine Q.rg <| Q.as rfl <| Q.nt <| UW.ret <| UQ.passR <| ?_
                    refine retR [] (fun _ => res_tmp rfl rfl) (.refl _) fun hd => ⟨?_, rfl⟩
                    rw [hone2, show goodR 2048 r = false from by simp only [goodR, Bool.and_eq_true, Bool.and_eq_false_iff, Bool.not_eq_true', Bool.not_eq_false', decide_eq_true_eq, decide_eq_false_iff_not]; omega]; rfl
                  · refine Q.mv rfl <| Q.mv rfl <| US.bin_int rfl (by decide) rfl rfl rfl rfl (r := .bool false) (by (simp [iop, sop, p1]; done)) <| ?_
                    refine Q.mv rfl <| ?_
                    (refine US.on rfl rfl (by decide) rfl ?_; refine US.move rfl (by decide) rfl rfl rfl ?_)
                    (refine US.on rfl rfl (by decide) rfl ?_; refine US.bin_int rfl (by decide) rfl rfl rfl rfl (r := .bool true) (by (simp [iop, sop, p2]; done)) ?_)
                    (refine US.on rfl rfl (by decide) rfl ?_; refine US.move rfl (by decide) rfl rfl rfl ?_)
                    (refine US.on rfl rfl (by decide) rfl ?_; refine US.move rfl (by decide) rfl rfl rfl ?_)
                    (refine US.on rfl rfl (by decide) rfl ?_; refine US.bin_int rfl (by decide) rfl rfl rfl rfl (r := .bool false) (by (simp [iop, sop, p3]; done)) ?_)
                    (refine US.on rfl rfl (by decide) rfl ?_; refine US.pick rfl (by decide) rfl rfl rfl rfl ?_)
                    refine Q.pk rfl rfl <| Q.mv rfl <| ?_
                    (refine US.on rfl rfl (by decide) rfl ?_; refine US.move rfl (by decide) rfl rfl rfl ?_)
                    (refine US.on rfl rfl (by decide) rfl ?_; refine US.bin_int rfl (by decide) rfl rfl rfl rfl (r := .bool false) (by (simp [iop, sop, p4]; done)) ?_)
                    refine Q.pk rfl rfl <| Q.nt <| UW.cond rfl (fun h => absurd h (by simp)) fun _ => ?_
                    refine UW.skip <| UQ.then <| Q.rg <| Q.mv rfl <| US.add rfl (by decide) rfl rfl rfl rfl (IntWalk.i64_in _ (by omega)) <| Q.as rfl <| Q.nt <| UW.ret <| ?_
                    refine retR [] (fun _ => res_tmp rfl rfl) (.refl _) fun hd => ⟨?_, rfl⟩
                    rw [hone2, show goodR 2048 r = true from by simp only [goodR, Bool.and_eq_true, Bool.and_eq_false_iff, Bool.not_eq_true', Bool.not_eq_false', decide_eq_true_eq, decide_eq_false_iff_not]; omega]; rfl
              · by_cases p4 : r > 1114111
                · refine Q.mv rfl <| Q.mv rfl <| US.bin_int rfl (by decide) rfl rfl rfl rfl (r := .bool false) (by (simp [iop, sop, p1]; done)) <| ?_
                  refine Q.mv rfl <| ?_
                  (refine US.on rfl rfl (by decide) rfl ?_; refine US.move rfl (by decide) rfl rfl rfl ?_)
                  (refine US.on rfl rfl (by decide) rfl ?_; refine US.bin_int rfl (by decide) rfl rfl rfl rfl (r := .bool false) (by (simp [iop, sop, p2]; done)) ?_)
                  (refine US.on rfl rfl (by decide) rfl ?_; refine US.move rfl (by decide) rfl rfl rfl ?_)
                  refine Q.of <| Q.of <| ?_
                  (refine US.on rfl rfl (by decide) rfl ?_; refine US.pick rfl (by decide) rfl rfl rfl rfl ?_)
                  refine Q.pk rfl rfl <| Q.mv rfl <| ?_
                  (refine US.on rfl rfl (by decide) rfl ?_; refine US.move rfl (by decide) rfl rfl rfl ?_)
                  (refine US.on rfl rfl (by decide) rfl ?_; refine US.bin_int rfl (by decide) rfl rfl rfl rfl (r := .bool true) (by (simp [iop, sop, p4]; done)) ?_)
                  refine Q.pk rfl rfl <| Q.nt <| ?_
                  refine UW.cond rfl (fun _ => ?_) (fun h => absurd h (by simp))
                  refine Q.rg <| Q.as rfl <| Q.nt <| UW.ret <| UQ.passR <| ?_
                  refine retR [] (fun _ => res_tmp rfl rfl) (.refl _) fun hd => ⟨?_, rfl⟩
                  rw [hone2, show goodR 2048 r = false from by simp only [goodR, Bool.and_eq_true, Bool.and_eq_false_iff, Bool.not_eq_true', Bool.not_eq_false', decide_eq_true_eq, decide_eq_false_iff_not]; omega]; rfl
                · refine Q.mv rfl <| Q.mv rfl <| US.bin_int rfl (by decide) rfl rfl rfl rfl (r := .bool false) (by (simp [iop, sop, p1]; done)) <| ?_
                  refine Q.mv rfl <| ?_
                  (refine US.on rfl rfl (by decide) rfl ?_; refine US.move rfl (by decide) rfl rfl rfl ?_)
                  (refine US.on rfl rfl (by decide) rfl ?_; refine US.bin_int rfl (by decide) rfl rfl rfl rfl (r := .bool false) (by (simp [iop, sop, p2]; done)) ?_)
                  (refine US.on rfl rfl (by decide) rfl ?_; refine US.move rfl (by decide) rfl rfl rfl ?_)
                  refine Q.of <| Q.of <| ?_
                  (refine US.on rfl rfl (by decide) rfl ?_; refine US.pick rfl (by decide) rfl rfl rfl rfl ?_)
                  refine Q.pk rfl rfl <| Q.mv rfl <| ?_
                  (refine US.on rfl rfl (by decide) rfl ?_; refine US.move rfl (by decide) rfl rfl rfl ?_)
                  (refine US.on rfl rfl (by decide) rfl ?_; refine US.bin_int rfl (by decide) rfl rfl rfl rfl (r := .bool false) (by (simp [iop, sop, p4]; done)) ?_)
                  refine Q.pk rfl rfl <| Q.nt <| UW.cond rfl (fun h => absurd h (by simp)) fun _ => ?_
                  refine UW.skip <| UQ.then <| Q.rg <| Q.mv rfl <| US.add rfl (by decide) rfl rfl rfl rfl (IntWalk.i64_in _ (by omega)) <| Q.as rfl <| Q.nt <| UW.ret <| ?_
                  refine retR [] (fun _ => res_tmp rfl rfl) (.refl _) fun hd => ⟨?_, rfl⟩
                  rw [hone2, show goodR 2048 r = true from by simp only [goodR, Bool.and_eq_true, Bool.and_eq_false_iff, Bool.not_eq_true', Bool.not_eq_false', decide_eq_true_eq, decide_eq_false_iff_not]; omega]; rfl
        · have hone : oneV s = oneN s 3 65536 ((bt s 0 : Int).tmod 8) := by
            unfold oneV
            rw [if_neg h0, hm, if_neg (by omega), if_neg (by omega)]; rfl
          have hr0 : 0 ≤ (bt s 0 : Int).tmod 8 := Int.tmod_nonneg _ (by omega)
          have hr1 : (bt s 0 : Int).tmod 8 < 8 := Int.tmod_lt_of_pos _ (by decide)
          refine Q.mv rfl <| Q.bi rfl rfl rfl <| Q.nt <| ?_
          refine UW.cond rfl (fun _ => ?_) (fun h => absurd h (by simp))
          refine UW.region <| Q.mv rfl <| Q.mv rfl <| US.conv rfl (by decide) rfl rfl (by rw [Tryz.underlying3]; rfl) Tryz.underlying86 rfl (r := 3) (by rfl) <| ?_
          refine US.bin_shr rfl (by decide) rfl rfl rfl rfl (by omega) rfl <| US.bin_int rfl (by decide) rfl rfl rfl rfl (r := .int .i64 ((bt s 0 : Int).tmod 8)) rfl <| Q.as rfl <| Q.nt <| UW.seq <| Q.rg <| Q.as rfl <| Q.nt <| UW.block <| UW.loop (fun i : Nat => [(5, .v (.int .i64 ((i + 1 : Nat) : Int))), (3, .v (.int .i64 3)), (4, .v (.int .i64 (rAcc s ((bt s 0 : Int).tmod 8) i))), (0, .v (.string s))]) (fun _ => []) (fun i => i ≤ 3 ∧ ∀ j, j < i → contB s (j + 1) = true) (fun i => 3 - i) 0 ⟨Nat.zero_le _, fun j h => absurd h (by omega)⟩ ⟨rfl, rfl, rfl, rfl, trivial⟩ (.refl _) <| ?_
          rintro i ⟨hi, hj⟩
          have hb := rAcc_le s ((bt s 0 : Int).tmod 8) (by omega) (by omega) i (by omega)
          refine UW.seq <| Q.rg <| Q.mv rfl <| Q.mv rfl <| Q.bi rfl rfl rfl <| Q.nt <| ?_
          refine UW.cond rfl (fun h => ?_) (fun h => ?_)
          · have h := of_decide_eq_true h
            have hlt : i < 3 := by omega
            have hbi := bt_lt s (i + 1)
            have bad : contB s (i + 1) = false → (List.range 3).all (fun i => contB s (i + 1)) = false := fun hb => by
              rw [List.all_eq_false]
              exact ⟨i, List.mem_range.2 hlt, by simp [hb]⟩
            refine UW.skip <| UQ.then <| UW.seq <| UW.block <| UW.seq <| Q.rg <| ?_
            by_cases q1 : (bt s (i + 1) : Int) < 128
            · refine Q.mv rfl <| Q.mv rfl <| US.index_str rfl (by decide) rfl rfl Tryz.underlying9 rfl rfl (by omega) (by omega) (c := (bt s (i + 1) : Int)) (by rw [bt_at s (i + 1) (by omega)]; rfl) <| ?_
              refine US.bin_int rfl (by decide) rfl rfl rfl rfl (r := .bool true) (by (simp [iop, sop, q1]; done)) <| ?_
              refine Q.mv rfl <| Q.of <| Q.of <| Q.of <| Q.of <| Q.pk rfl rfl <| Q.nt <| ?_
              refine UW.cond rfl (fun _ => ?_) (fun h => absurd h (by simp))
              refine Q.rg <| Q.as rfl <| Q.nt <| UW.ret <| UQ.passR <| UQ.blockR <| UQ.passR <| UQ.passR <| UQ.blockR <| UQ.passR <| ?_
              refine retR [] (fun _ => res_tmp rfl rfl) (.refl _) fun hd => ⟨?_, rfl⟩
              rw [hone, oneN, bad (by unfold contB; rw [decide_eq_false (by omega : ¬ 128 ≤ bt s (i + 1))]; rfl)]; rfl
            · by_cases q2 : (bt s (i + 1) : Int) > 191
              · refine Q.mv rfl <| Q.mv rfl <| US.index_str rfl (by decide) rfl rfl Tryz.underlying9 rfl rfl (by omega) (by omega) (c := (bt s (i + 1) : Int)) (by rw [bt_at s (i + 1) (by omega)]; rfl) <| ?_
                refine US.bin_int rfl (by decide) rfl rfl rfl rfl (r := .bool false) (by (simp [iop, sop, q1]; done)) <| ?_
                refine Q.mv rfl <| ?_
                (refine US.on rfl rfl (by decide) rfl ?_; refine US.move rfl (by decide) rfl rfl rfl ?_)
                (refine US.on rfl rfl (by decide) rfl ?_; refine US.move rfl (by decide) rfl rfl rfl ?_)
                (refine US.on rfl rfl (by decide) rfl ?_; refine US.index_str rfl (by decide) rfl rfl Tryz.underlying9 rfl rfl (by omega) (by omega) (c := (bt s (i + 1) : Int)) (by rw [bt_at s (i + 1) (by omega)]; rfl) ?_)
                (refine US.on rfl rfl (by decide) rfl ?_; refine US.bin_int rfl (by decide) rfl rfl rfl rfl (r := .bool true) (by (simp [iop, sop, q2]; done)) ?_)
                refine Q.pk rfl rfl <| Q.nt <| ?_
                refine UW.cond rfl (fun _ => ?_) (fun h => absurd h (by simp))
                refine Q.rg <| Q.as rfl <| Q.nt <| UW.ret <| UQ.passR <| UQ.blockR <| UQ.passR <| UQ.passR <| UQ.blockR <| UQ.passR <| ?_
                refine retR [] (fun _ => res_tmp rfl rfl) (.refl _) fun hd => ⟨?_, rfl⟩
                rw [hone, oneN, bad (by unfold contB; rw [decide_eq_false (by omega : ¬ bt s (i + 1) ≤ 191), Bool.and_false])]; rfl
              · refine Q.mv rfl <| Q.mv rfl <| US.index_str rfl (by decide) rfl rfl Tryz.underlying9 rfl rfl (by omega) (by omega) (c := (bt s (i + 1) : Int)) (by rw [bt_at s (i + 1) (by omega)]; rfl) <| ?_
                refine US.bin_int rfl (by decide) rfl rfl rfl rfl (r := .bool false) (by (simp [iop, sop, q1]; done)) <| ?_
                refine Q.mv rfl <| ?_
                (refine US.on rfl rfl (by decide) rfl ?_; refine US.move rfl (by decide) rfl rfl rfl ?_)
                (refine US.on rfl rfl (by decide) rfl ?_; refine US.move rfl (by decide) rfl rfl rfl ?_)
                (refine US.on rfl rfl (by decide) rfl ?_; refine US.index_str rfl (by decide) rfl rfl Tryz.underlying9 rfl rfl (by omega) (by omega) (c := (bt s (i + 1) : Int)) (by rw [bt_at s (i + 1) (by omega)]; rfl) ?_)
                (refine US.on rfl rfl (by decide) rfl ?_; refine US.bin_int rfl (by decide) rfl rfl rfl rfl (r := .bool false) (by (simp [iop, sop, q2]; done)) ?_)
                refine Q.pk rfl rfl <| Q.nt <| UW.cond rfl (fun h => absurd h (by simp)) fun _ => ?_
                have ht0 : 0 ≤ (bt s (i + 1) : Int).tmod 64 := Int.tmod_nonneg _ (by omega)
                have ht1 : (bt s (i + 1) : Int).tmod 64 < 64 := Int.tmod_lt_of_pos _ (by decide)
                refine UW.skip <| UQ.then <| UW.region <| Q.mv rfl <| US.mul rfl (by decide) rfl rfl rfl rfl (r := 64 * rAcc s ((bt s 0 : Int).tmod 8) i) (IntWalk.i64_in _ (by omega)) <| Q.mv rfl <| Q.mv rfl <| US.index_str rfl (by decide) rfl rfl Tryz.underlying9 rfl rfl (by omega) (by omega) (c := (bt s (i + 1) : Int)) (by rw [bt_at s (i + 1) (by omega)]; rfl) <| ?_
                refine Q.bi rfl rfl rfl <| US.conv rfl (by decide) rfl rfl (by rw [Tryz.underlying5]; rfl) Tryz.underlying3 rfl (r := (bt s (i + 1) : Int).tmod 64) (IntWalk.i64_in _ (by omega)) <| ?_
                refine US.add rfl (by decide) rfl rfl rfl rfl (r := rAcc s ((bt s 0 : Int).tmod 8) (i + 1)) (IntWalk.i64_in _ (by omega)) <| Q.as rfl <| US.nil <| UQ.blockN <| UQ.then <| UW.region <| Q.mv rfl <| US.add rfl (by decide) rfl rfl rfl rfl (r := ((i + 1 + 1 : Nat) : Int)) (IntWalk.i64_in _ (by omega)) <| Q.as rfl <| ?_
                exact US.round (a' := i + 1) ⟨by omega, fun j h3 => by
                  by_cases hjk : j = i
                  · subst hjk; unfold contB; rw [decide_eq_true (by omega : 128 ≤ bt s (j + 1)), decide_eq_true (by omega : bt s (j + 1) ≤ 191)]; rfl
                  · exact hj j (by omega)⟩ (by omega) ⟨rfl, rfl, rfl, rfl, trivial⟩ (.refl _)
          · have h := of_decide_eq_false h
            have hin : i = 3 := by omega
            subst hin
            have hall : (List.range 3).all (fun i => contB s (i + 1)) = true := by
              rw [List.all_eq_true]
              exact fun j hjm => hj j (List.mem_range.1 hjm)
            have hone2 : oneV s = if goodR 65536 (rAcc s ((bt s 0 : Int).tmod 8) 3) then (3 : Int) + 1 else 0 := by rw [hone, oneN, hall]; rfl
            clear hj
            generalize rAcc s ((bt s 0 : Int).tmod 8) 3 = r at hone2 hb ⊢
            refine UW.exit <| UQ.pass <| UQ.pass <| UQ.here <| UQ.then <| Q.rg <| US.lit_sl rfl (by decide) rfl rfl row135 (by decide) rfl rfl rfl (by exact lit_ok rfl) <| ?_
            refine Q.mv rfl <| US.indexAddr_sl rfl (by decide) rfl rfl sl135 rfl rfl (by omega) rfl rfl <| US.load_rp_cell rfl (by decide) rfl rfl rfl ty3 <| Q.as rfl <| Q.nt <| UW.seq <| Q.rg <| ?_
            by_cases p1 : r < 65536
            · refine Q.mv rfl <| Q.mv rfl <| US.bin_int rfl (by decide) rfl rfl rfl rfl (r := .bool true) (by (simp [iop, sop, p1]; done)) <| ?_
              refine Q.mv rfl <| Q.of <| Q.of <| Q.of <| Q.ou <| Q.ou <| Q.of <| Q.pk rfl rfl <| Q.mv rfl <| Q.of <| Q.of <| Q.pk rfl rfl <| Q.nt <| ?_
              refine UW.cond rfl (fun _ => ?_) (fun h => absurd h (by simp))
              refine Q.rg <| Q.as rfl <| Q.nt <| UW.ret <| UQ.passR <| ?_
              refine retR [] (fun _ => res_tmp rfl rfl) (.refl _) fun hd => ⟨?_, rfl⟩
              rw [hone2, show goodR 65536 r = false from by simp only [goodR, Bool.and_eq_true, Bool.and_eq_false_iff, Bool.not_eq_true', Bool.not_eq_false', decide_eq_true_eq, decide_eq_false_iff_not]; omega]; rfl
            · by_cases p2 : r ≥ 55296
              · by_cases p3 : r ≤ 57343
                · refine Q.mv rfl <| Q.mv rfl <| US.bin_int rfl (by decide) rfl rfl rfl rfl (r := .bool false) (by (simp [iop, sop, p1]; done)) <| ?_
                  refine Q.mv rfl <| ?_
                  (refine US.on rfl rfl (by decide) rfl ?_; refine US.move rfl (by decide) rfl rfl rfl ?_)
                  (refine US.on rfl rfl (by decide) rfl ?_; refine US.bin_int rfl (by decide) rfl rfl rfl rfl (r := .bool true) (by (simp [iop, sop, p2]; done)) ?_)
                  (refine US.on rfl rfl (by decide) rfl ?_; refine US.move rfl (by decide) rfl rfl rfl ?_)
                  (refine US.on rfl rfl (by decide) rfl ?_; refine US.move rfl (by decide) rfl rfl rfl ?_)
                  (refine US.on rfl rfl (by decide) rfl ?_; refine US.bin_int rfl (by decide) rfl rfl rfl rfl (r := .bool true) (by (simp [iop, sop, p3]; done)) ?_)
                  (refine US.on rfl rfl (by decide) rfl ?_; refine US.pick rfl (by decide) rfl rfl rfl rfl ?_)
                  refine Q.pk rfl rfl <| Q.mv rfl <| Q.of <| Q.of <| Q.pk rfl rfl <| Q.nt <| ?_
                  refine UW.cond rfl (fun _ => ?_) (fun h => absurd h (by simp))
                  refine Q.rg <| Q.as rfl <| Q.nt <| UW.ret <| UQ.passR <| ?_
                  refine retR [] (fun _ => res_tmp rfl rfl) (.refl _) fun hd => ⟨?_, rfl⟩
                  rw [hone2, show goodR 65536 r = false from by simp only [goodR, Bool.and_eq_true, Bool.and_eq_false_iff, Bool.not_eq_true', Bool.not_eq_false', decide_eq_true_eq, decide_eq_false_iff_not]; omega]; rfl
                · by_cases p4 : r > 1114111
                  · refine Q.mv rfl <| Q.mv rfl <| US.bin_int rfl (by decide) rfl rfl rfl rfl (r := .bool false) (by (simp [iop, sop, p1]; done)) <| ?_
                    refine Q.mv rfl <| ?_
                    (refine US.on rfl rfl (by decide) rfl ?_; refine US.move rfl (by decide) rfl rfl rfl ?_)
                    (refine US.on rfl rfl (by decide) rfl ?_; refine US.bin_int rfl (by decide) rfl rfl rfl rfl (r := .bool true) (by (simp [iop, sop, p2]; done)) ?_)
                    (refine US.on rfl rfl (by decide) rfl ?_; refine US.move rfl (by decide) rfl rfl rfl ?_)
                    (refine US.on rfl rfl (by decide) rfl ?_; refine US.move rfl (by decide) rfl rfl rfl ?_)
                    (refine US.on rfl rfl (by decide) rfl ?_; refine US.bin_int rfl (by decide) rfl rfl rfl rfl (r := .bool false) (by (simp [iop, sop, p3]; done)) ?_)
                    (refine US.on rfl rfl (by decide) rfl ?_; refine US.pick rfl (by decide) rfl rfl rfl rfl ?_)
                    refine Q.pk rfl rfl <| Q.mv rfl <| ?_
                    (refine US.on rfl rfl (by decide) rfl ?_; refine US.move rfl (by decide) rfl rfl rfl ?_)
                    (refine US.on rfl rfl (by decide) rfl ?_; refine US.bin_int rfl (by decide) rfl rfl rfl rfl (r := .bool true) (by (simp [iop, sop, p4]; done)) ?_)
                    refine Q.pk rfl rfl <| Q.nt <| ?_
                    refine UW.cond rfl (fun _ => ?_) (fun h => absurd h (by simp))
                    refine Q.rg <| Q.as rfl <| Q.nt <| UW.ret <| UQ.passR <| ?_
                    refine retR [] (fun _ => res_tmp rfl rfl) (.refl _) fun hd => ⟨?_, rfl⟩
                    rw [hone2, show goodR 65536 r = false from by simp only [goodR, Bool.and_eq_true, Bool.and_eq_false_iff, Bool.not_eq_true', Bool.not_eq_false', decide_eq_true_eq, decide_eq_false_iff_not]; omega]; rfl
                  · refine Q.mv rfl <| Q.mv rfl <| US.bin_int rfl (by decide) rfl rfl rfl rfl (r := .bool false) (by (simp [iop, sop, p1]; done)) <| ?_
                    refine Q.mv rfl <| ?_
                    (refine US.on rfl rfl (by decide) rfl ?_; refine US.move rfl (by decide) rfl rfl rfl ?_)
                    (refine US.on rfl rfl (by decide) rfl ?_; refine US.bin_int rfl (by decide) rfl rfl rfl rfl (r := .bool true) (by (simp [iop, sop, p2]; done)) ?_)
                    (refine US.on rfl rfl (by decide) rfl ?_; refine US.move rfl (by decide) rfl rfl rfl ?_)
                    (refine US.on rfl rfl (by decide) rfl ?_; refine US.move rfl (by decide) rfl rfl rfl ?_)
                    (refine US.on rfl rfl (by decide) rfl ?_; refine US.bin_int rfl (by decide) rfl rfl rfl rfl (r := .bool false) (by (simp [iop, sop, p3]; done)) ?_)
                    (refine US.on rfl rfl (by decide) rfl ?_; refine US.pick rfl (by decide) rfl rfl rfl rfl ?_)
                    refine Q.pk rfl rfl <| Q.mv rfl <| ?_
                    (refine US.on rfl rfl (by decide) rfl ?_; refine US.move rfl (by decide) rfl rfl rfl ?_)
                    (refine US.on rfl rfl (by decide) rfl ?_; refine US.bin_int rfl (by decide) rfl rfl rfl rfl (r := .bool false) (by (simp [iop, sop, p4]; done)) ?_)
                    refine Q.pk rfl rfl <| Q.nt <| UW.cond rfl (fun h => absurd h (by simp)) fun _ => ?_
                    refine UW.skip <| UQ.then <| Q.rg <| Q.mv rfl <| US.add rfl (by decide) rfl rfl rfl rfl (IntWalk.i64_in _ (by omega)) <| Q.as rfl <| Q.nt <| UW.ret <| ?_
                    refine retR [] (fun _ => res_tmp rfl rfl) (.refl _) fun hd => ⟨?_, rfl⟩
                    rw [hone2, show goodR 65536 r = true from by simp only [goodR, Bool.and_eq_true, Bool.and_eq_false_iff, Bool.not_eq_true', Bool.not_eq_false', decide_eq_true_eq, decide_eq_false_iff_not]; omega]; rfl
              · by_cases p4 : r > 1114111
                · refine Q.mv rfl <| Q.mv rfl <| US.bin_int rfl (by decide) rfl rfl rfl rfl (r := .bool false) (by (simp [iop, sop, p1]; done)) <| ?_
                  refine Q.mv rfl <| ?_
                  (refine US.on rfl rfl (by decide) rfl ?_; refine US.move rfl (by decide) rfl rfl rfl ?_)
                  (refine US.on rfl rfl (by decide) rfl ?_; refine US.bin_int rfl (by decide) rfl rfl rfl rfl (r := .bool false) (by (simp [iop, sop, p2]; done)) ?_)
                  (refine US.on rfl rfl (by decide) rfl ?_; refine US.move rfl (by decide) rfl rfl rfl ?_)
                  refine Q.of <| Q.of <| ?_
                  (refine US.on rfl rfl (by decide) rfl ?_; refine US.pick rfl (by decide) rfl rfl rfl rfl ?_)
                  refine Q.pk rfl rfl <| Q.mv rfl <| ?_
                  (refine US.on rfl rfl (by decide) rfl ?_; refine US.move rfl (by decide) rfl rfl rfl ?_)
                  (refine US.on rfl rfl (by decide) rfl ?_; refine US.bin_int rfl (by decide) rfl rfl rfl rfl (r := .bool true) (by (simp [iop, sop, p4]; done)) ?_)
                  refine Q.pk rfl rfl <| Q.nt <| ?_
                  refine UW.cond rfl (fun _ => ?_) (fun h => absurd h (by simp))
                  refine Q.rg <| Q.as rfl <| Q.nt <| UW.ret <| UQ.passR <| ?_
                  refine retR [] (fun _ => res_tmp rfl rfl) (.refl _) fun hd => ⟨?_, rfl⟩
                  rw [hone2, show goodR 65536 r = false from by simp only [goodR, Bool.and_eq_true, Bool.and_eq_false_iff, Bool.not_eq_true', Bool.not_eq_false', decide_eq_true_eq, decide_eq_false_iff_not]; omega]; rfl
                · refine Q.mv rfl <| Q.mv rfl <| US.bin_int rfl (by decide) rfl rfl rfl rfl (r := .bool false) (by (simp [iop, sop, p1]; done)) <| ?_
                  refine Q.mv rfl <| ?_
                  (refine US.on rfl rfl (by decide) rfl ?_; refine US.move rfl (by decide) rfl rfl rfl ?_)
                  (refine US.on rfl rfl (by decide) rfl ?_; refine US.bin_int rfl (by decide) rfl rfl rfl rfl (r := .bool false) (by (simp [iop, sop, p2]; done)) ?_)
                  (refine US.on rfl rfl (by decide) rfl ?_; refine US.move rfl (by decide) rfl rfl rfl ?_)
                  refine Q.of <| Q.of <| ?_
                  (refine US.on rfl rfl (by decide) rfl ?_; refine US.pick rfl (by decide) rfl rfl rfl rfl ?_)
                  refine Q.pk rfl rfl <| Q.mv rfl <| ?_
                  (refine US.on rfl rfl (by decide) rfl ?_; refine US.move rfl (by decide) rfl rfl rfl ?_)
                  (refine US.on rfl rfl (by decide) rfl ?_; refine US.bin_int rfl (by decide) rfl rfl rfl rfl (r := .bool false) (by (simp [iop, sop, p4]; done)) ?_)
                  refine Q.pk rfl rfl <| Q.nt <| UW.cond rfl (fun h => absurd h (by simp)) fun _ => ?_
                  refine UW.skip <| UQ.then <| Q.rg <| Q.mv rfl <| US.add rfl (by decide) rfl rfl rfl rfl (IntWalk.i64_in _ (by omega)) <| Q.as rfl <| Q.nt <| UW.ret <| ?_
                  refine retR [] (fun _ => res_tmp rfl rfl) (.refl _) fun hd => ⟨?_, rfl⟩
                  rw [hone2, show goodR 65536 r = true from by simp only [goodR, Bool.and_eq_true, Bool.and_eq_false_iff, Bool.not_eq_true', Bool.not_eq_false', decide_eq_true_eq, decide_eq_false_iff_not]; omega]; rfl
end Go.Proofs.YtgmfgmbgmjbdhaaGreatDoor
