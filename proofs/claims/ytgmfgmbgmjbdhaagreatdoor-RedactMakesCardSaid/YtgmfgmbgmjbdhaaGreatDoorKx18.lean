/- The other reading of runes. · The two readings of runes are one. -/
import Derived.Test.YtgmfgmbgmjbdhaaGreatDoorKx17
import Derived.Test.YtgmfgmbgmjbdhaaGreatDoorKx12
section
namespace Go.Proofs.YtgmfgmbgmjbdhaaGreatDoor
open Go Go.RowKit Go.Eng
set_option linter.unusedSimpArgs false
set_option linter.unusedVariables false
set_option maxHeartbeats 4000000
set_option maxRecDepth 100000
/-- The byte at i. -/
def bt (s : ByteArray) (i : Nat) : Nat := (s.get! i).toNat
theorem bt_at (s : ByteArray) (i : Nat) (h : i < s.size) : bt s i = (s[i]'h).toNat := by
  have e : s.get! i = s[i]'h := by simp [ByteArray.get!, getElem!_pos, h]; rfl
  unfold bt; rw [e]
theorem bt_lt (s : ByteArray) (i : Nat) : bt s i < 256 := UInt8.toNat_lt _
def contB (s : ByteArray) (i : Nat) : Bool := decide (128 ≤ bt s i) && decide (bt s i ≤ 191)
def rAcc (s : ByteArray) (r0 : Int) : Nat → Int
  | 0 => r0
  | i + 1 => 64 * rAcc s r0 i + (bt s (i + 1) : Int).tmod 64
theorem rAcc_bd (s : ByteArray) (r0 : Int) (h0 : 0 ≤ r0) (h1 : r0 ≤ 255) : ∀ i, 0 ≤ rAcc s r0 i ∧ rAcc s r0 i ≤ 256 * 64 ^ i - 1
  | 0 => by simp only [rAcc]; omega
  | i + 1 => by
    have ih := rAcc_bd s r0 h0 h1 i
    have h2 : 0 ≤ (bt s (i + 1) : Int).tmod 64 := Int.tmod_nonneg _ (by omega)
    have h3 : (bt s (i + 1) : Int).tmod 64 < 64 := Int.tmod_lt_of_pos _ (by decide)
    simp only [rAcc, Int.pow_succ]
    omega
theorem rAcc_le (s : ByteArray) (r0 : Int) (h0 : 0 ≤ r0) (h1 : r0 ≤ 255) (i : Nat) (hi : i ≤ 3) : 0 ≤ rAcc s r0 i ∧ rAcc s r0 i ≤ 67108863 := by
  have h := rAcc_bd s r0 h0 h1 i
  match i with
  | 0 => simp at h; omega
  | 1 => simp at h; omega
  | 2 => simp at h; omega
  | 3 => simp at h; omega
  | i + 4 => omega
def goodR (least r : Int) : Bool := decide (least ≤ r) && (!(decide (55296 ≤ r) && decide (r ≤ 57343)) && decide (r ≤ 1114111))
/-- One rune of n bytes more, its first part r0. -/
def oneN (s : ByteArray) (n : Nat) (least r0 : Int) : Int := if (List.range n).all (fun i => contB s (i + 1)) then (if goodR least (rAcc s r0 n) then (n : Int) + 1 else 0) else 0
/-- How long the first rune is; 0: there is none. -/
def oneV (s : ByteArray) : Int :=
  if s.size = 0 then 0
  else if moreN (bt s 0) < 0 then 0
  else if (s.size : Int) ≤ moreN (bt s 0) then 0
  else if moreN (bt s 0) = 0 then oneN s 0 0 (bt s 0)
  else if moreN (bt s 0) = 1 then oneN s 1 128 ((bt s 0 : Int).tmod 32)
  else if moreN (bt s 0) = 2 then oneN s 2 2048 ((bt s 0 : Int).tmod 16)
  else oneN s 3 65536 ((bt s 0 : Int).tmod 8)
theorem moreN_le (c : Int) : moreN c ≤ 3 := by unfold moreN; repeat' split
                                               all_goals omega
theorem empty_iff (s : ByteArray) : (s.toList == (⟨#[]⟩ : ByteArray).toList) = decide (s.size = 0) := by
  rw [Lib.toList_data, Lib.toList_data]
  obtain ⟨⟨l⟩⟩ := s
  cases l with
  | nil => rfl
  | cons a l => rfl
theorem bt_bAt (s : ByteArray) (i : Nat) (h : i < s.size) : bAt s (i : Int) = (bt s i : Int) := by
  rw [bt_at s i h]
  unfold bAt
  rw [dif_pos (by simpa using h)]
  rfl
def leastL : List Int := [0, 128, 2048, 65536]
theorem one_main {s : ByteArray} {m : Nat} (h0 : s.size ≠ 0) (hm : moreN (bt s 0) = (m : Int)) (hs : m < s.size) (hm3 : m ≤ 3) (hp : 0 < m) : oneV s = oneN s m (leastL.getD m 0) ((bt s 0 : Int).tmod (64 / 2 ^ m)) := by
  unfold oneV
  rw [if_neg h0, hm, if_neg (by omega), if_neg (by omega), if_neg (by omega)]
  match m, hm3, hp with
  | 1, _, _ => rfl
  | 2, _, _ => rfl
  | 3, _, _ => rfl
theorem one_spec (s : ByteArray) (hs : s.size ≤ 4000000) (H : Hp) : ACall Tryz.prog 97 [.v (.string s)] H (IsR H (.v (.int .i64 (oneV s)))) := by
  have hb0 := bt_lt s 0
  have hem := empty_iff s
  have hc0 : 0 ≤ (bt s 0 : Int) ∧ (bt s 0 : Int) < 256 := by omega
  by_cases h0 : s.size = 0
  · have hv : oneV s = 0 := by unfold oneV; rw [if_pos h0]
    rw [hv]
    rw [decide_eq_true h0] at hem
    refine UCall (n := 80) (H0 := H) (objs := []) Tryz.func97 (by kernel_rfl) rfl (by rw [Tryz.ntmps97]; rfl) .nil <| ?_
    refine Q.rg <| Q.as rfl <| Q.nt <| S.sq <| Q.rg <| Q.mv rfl <| S.qu (Z.eq (u' := .v (.bool true)) (Z.bs rfl rfl rfl) (by rw [hem])) <| ?_
    refine Q.mv rfl <| Q.of <| Q.of <| Q.of <| Q.of <| Q.pk rfl rfl <| Q.mv rfl <| Q.of <| Q.of <| Q.of <| Q.of <| Q.of <| Q.of <| Q.pk rfl rfl <| Q.nt <| S.cT rfl rfl <| Q.rg <| Q.as rfl <| Q.nt <| UW.ret <| UQ.passR <| S.rtR (fun _ => res_tmp rfl rfl) <| ?_
    rfl
  · have hne : (s.toList == (⟨#[]⟩ : ByteArray).toList) = false := by rw [hem, decide_eq_false h0]
    have h00 : bAt s 0 = (bt s 0 : Int) := bt_bAt s 0 (by omega)
    have hba := bt_bAt s
    have hv1 : moreN (bt s 0) < 0 → oneV s = 0 := fun h => by unfold oneV; rw [if_neg h0, if_pos h]
    have hv2 : ¬ moreN (bt s 0) < 0 → (s.size : Int) ≤ moreN (bt s 0) → oneV s = 0 := fun h h' => by unfold oneV; rw [if_neg h0, if_neg h, if_pos h']
    have hmo := more_spec (bt s 0)
    have hm3 := moreN_le (bt s 0)
    clear hem
    by_cases m0 : moreN (bt s 0) < 0
    · rw [hv1 m0]
      clear hv1 hv2
      generalize moreN (bt s 0) = m at *
      generalize (bt s 0 : Int) = c0 at *
      refine UCall (n := 80) (H0 := H) (objs := []) Tryz.func97 (by kernel_rfl) rfl (by rw [Tryz.ntmps97]; rfl) .nil <| ?_
      focus
        refine Q.rg <| Q.as rfl <| Q.nt <| S.sq <| Q.rg <| Q.mv rfl <| S.qu (Z.eq (u' := .v (.bool false)) (Z.bs rfl rfl rfl) (by rw [hne])) <| ?_
        refine Q.mv rfl <| Q.on (Z.mv rfl) <| Q.on (Z.eq (u' := .v (.int .u8 c0)) (Z.is (p := s) Tryz.underlying9 rfl rfl (by omega) (by omega)) (by rw [h00])) <| ?_
        refine Q.on (Z.call rfl rfl (fun H => hmo H)) <| Q.on (Z.bi rfl rfl rfl) <| Q.pk rfl rfl <| Q.mv rfl <| ?_
        refine S.tD 15 (fun hc15 => ?_) (fun hc15 => ?_)
        rotate_left
        omega
        refine Q.of <| Q.of <| Q.of <| Q.of <| Q.of <| Q.of <| Q.pk rfl rfl <| Q.nt <| S.cT rfl rfl <| Q.rg <| Q.as rfl <| Q.nt <| UW.ret <| UQ.passR <| S.rtR (fun _ => res_tmp rfl rfl) <| ?_
        rfl
    · by_cases m1 : (s.size : Int) ≤ moreN (bt s 0)
      · rw [hv2 m0 m1]
        clear hv1 hv2
        generalize moreN (bt s 0) = m at *
        generalize (bt s 0 : Int) = c0 at *
        refine UCall (n := 80) (H0 := H) (objs := []) Tryz.func97 (by kernel_rfl) rfl (by rw [Tryz.ntmps97]; rfl) .nil <| ?_
        refine Q.rg <| Q.as rfl <| Q.nt <| S.sq <| Q.rg <| Q.mv rfl <| S.qu (Z.eq (u' := .v (.bool false)) (Z.bs rfl rfl rfl) (by rw [hne])) <| ?_
        refine Q.mv rfl <| Q.on (Z.mv rfl) <| Q.on (Z.eq (u' := .v (.int .u8 c0)) (Z.is (p := s) Tryz.underlying9 rfl rfl (by omega) (by omega)) (by rw [h00])) <| ?_
        refine Q.on (Z.call rfl rfl (fun H => hmo H)) <| Q.on (Z.bi rfl rfl rfl) <| Q.pk rfl rfl <| Q.mv rfl <| S.tF 15 (decide_eq_false (by omega)) <| Q.on (Z.mv rfl) <| Q.on (Z.eq (u' := .v (.int .u8 c0)) (Z.is (p := s) Tryz.underlying9 rfl rfl (by omega) (by omega)) (by rw [h00])) <| ?_
        refine Q.on (Z.call rfl rfl (fun H => hmo H)) <| Q.on (Z.mv rfl) <| Q.on (Z.lnt Tryz.underlying9 rfl) <| Q.on (Z.bi rfl rfl rfl) <| Q.pk rfl rfl <| Q.nt <| S.cT rfl (decide_eq_true (by omega)) <| Q.rg <| Q.as rfl <| Q.nt <| UW.ret <| UQ.passR <| S.rtR (fun _ => res_tmp rfl rfl) <| ?_
        rfl
      · obtain ⟨m, hm⟩ : ∃ m : Nat, moreN (bt s 0) = (m : Int) := ⟨(moreN (bt s 0)).toNat, by omega⟩
        clear hv1 hv2
        by_cases hp : 0 < m
        · have hone := one_main h0 hm (by omega) (by omega) hp
          obtain ⟨dv, hsh, hdv, hd0, hd1⟩ : ∃ dv : Int, (64 : Int).fdiv (2 ^ min ((m : Nat) : Int).toNat IntKind.i64.bits) = dv ∧ dv = 64 / 2 ^ m ∧ 0 < dv ∧ dv ≤ 32 := by
            match m, (by omega : m ≤ 3), hp with
            | 1, _, _ => exact ⟨32, by decide, by decide, by decide, by decide⟩
            | 2, _, _ => exact ⟨16, by decide, by decide, by decide, by decide⟩
            | 3, _, _ => exact ⟨8, by decide, by decide, by decide, by decide⟩
          rw [← hdv] at hone
          have hr0 := Int.tmod_nonneg dv (by omega : 0 ≤ (bt s 0 : Int))
          have hr1 := Int.tmod_lt_of_pos (bt s 0 : Int) hd0
          have hgl : (leastL.map fun c => [AV.v (.int .i64 c)])[m]? = some [.v (.int .i64 (leastL.getD m 0))] := by
            match m, (by omega : m ≤ 3) with
            | 0, _ => rfl
            | 1, _ => rfl
            | 2, _ => rfl
            | 3, _ => rfl
          have hll : (leastL.map fun c => [AV.v (.int .i64 c)]).length = 4 := rfl
          have hrl := rAcc_le s ((bt s 0 : Int).tmod dv) hr0 (by omega)
          have hra0 : rAcc s ((bt s 0 : Int).tmod dv) 0 = (bt s 0 : Int).tmod dv := rfl
          have hras : ∀ i, rAcc s ((bt s 0 : Int).tmod dv) (i + 1) = 64 * rAcc s ((bt s 0 : Int).tmod dv) i + (bt s (i + 1) : Int).tmod 64 := fun i => rfl
          rw [hone]
          rw [hm] at hmo m0 m1 hm3
          unfold oneN
          generalize rAcc s ((bt s 0 : Int).tmod dv) = ra at *
          generalize hrr : (bt s 0 : Int).tmod dv = r0 at *
          generalize leastL.getD m 0 = least at *
          generalize (bt s 0 : Int) = c0 at *
          refine UCall (n := 80) (H0 := H) (objs := []) Tryz.func97 (by kernel_rfl) rfl (by rw [Tryz.ntmps97]; rfl) .nil <| ?_
          refine Q.rg <| Q.as rfl <| Q.nt <| S.sq <| Q.rg <| Q.mv rfl <| S.qu (Z.eq (u' := .v (.bool false)) (Z.bs rfl rfl rfl) (by rw [hne])) <| ?_
          refine Q.mv rfl <| Q.on (Z.mv rfl) <| Q.on (Z.eq (u' := .v (.int .u8 c0)) (Z.is (p := s) Tryz.underlying9 rfl rfl (by omega) (by omega)) (by rw [h00])) <| ?_
          refine Q.on (Z.call rfl rfl (fun H => hmo H)) <| Q.on (Z.bi rfl rfl rfl) <| Q.pk rfl rfl <| Q.mv rfl <| S.tF 15 (decide_eq_false (by omega)) <| Q.on (Z.mv rfl) <| Q.on (Z.eq (u' := .v (.int .u8 c0)) (Z.is (p := s) Tryz.underlying9 rfl rfl (by omega) (by omega)) (by rw [h00])) <| ?_
          refine Q.on (Z.call rfl rfl (fun H => hmo H)) <| Q.on (Z.mv rfl) <| Q.on (Z.lnt Tryz.underlying9 rfl) <| Q.on (Z.bi rfl rfl rfl) <| Q.pk rfl rfl <| Q.nt <| S.cF rfl (decide_eq_false (by omega)) <| UW.skip <| UQ.then <| Q.rg <| Q.mv rfl <| S.qu (Z.eq (u' := .v (.int .u8 c0)) (Z.is (p := s) Tryz.underlying9 rfl rfl (by omega) (by omega)) (by rw [h00])) <| ?_
          refine S.qu (Z.call rfl rfl (fun H => hmo H)) <| Q.as rfl <| Q.nt <| Q.rg <| Q.mv rfl <| S.qu (Z.eq (u' := .v (.int .u8 c0)) (Z.is (p := s) Tryz.underlying9 rfl rfl (by omega) (by omega)) (by rw [h00])) <| ?_
          refine S.qu (Z.cv (r := c0) Tryz.underlying3 rfl (IntWalk.i64_in _ (by omega)) (by kernel_rfl)) <| Q.as rfl <| Q.nt <| S.sq <| Q.rg <| Q.mv rfl <| Q.bi rfl rfl rfl <| Q.nt <| S.cT rfl (decide_eq_true (by omega)) <| S.rg <| Q.mv rfl <| Q.mv rfl <| S.qu (Z.cv (r := ((m : Nat) : Int)) Tryz.underlying86 rfl (IntWalk.u64_in _ (by omega)) (by rw [Tryz.underlying3]; rfl)) <| ?_
          refine S.qu (Z.shr (r := dv) rfl rfl (by omega) hsh) <| S.qu (Z.bi (vr := .int .i64 r0) rfl rfl (by show (if dv = 0 then none else some (Value.int .i64 (c0.tmod dv))) = _; rw [if_neg (by omega), hrr])) <| ?_
          refine Q.as rfl <| Q.nt <| S.sq <| Q.rg <| Q.as rfl <| Q.nt <| UW.block <| S.loop (fun i : Nat => [(5, .v (.int .i64 ((i + 1 : Nat) : Int))), (3, .v (.int .i64 (m : Int))), (4, .v (.int .i64 (ra i))), (0, .v (.string s))]) (fun _ => []) (fun i => i ≤ m ∧ ∀ j, j < i → contB s (j + 1) = true) (fun i => m - i) 0 ⟨Nat.zero_le _, fun j hj => absurd hj (Nat.not_lt_zero _)⟩ ⟨rfl, rfl, congrArg (fun z => some (AV.v (.int .i64 z))) hra0.symm, rfl, trivial⟩ (.refl _) <| ?_
          rintro i ⟨hi, hall⟩
          have hri := hrl i (by omega)
          by_cases hlt : i < m
          · have hbi := bt_lt s (i + 1)
            have hbx := hba (i + 1) (by omega)
            have hn1 : contB s (i + 1) = (decide (128 ≤ bt s (i + 1)) && decide (bt s (i + 1) ≤ 191)) := rfl
            have bad : contB s (i + 1) = false → (List.range m).all (fun i => contB s (i + 1)) = false := fun hb => List.all_eq_false.2 ⟨i, List.mem_range.2 hlt, by simp [hb]⟩
            have hrs := hras i
            have hri1 := hrl (i + 1) (by omega)
            have hq0 : 0 ≤ (bt s (i + 1) : Int).tmod 64 := Int.tmod_nonneg _ (by omega)
            have hq1 : (bt s (i + 1) : Int).tmod 64 < 64 := Int.tmod_lt_of_pos _ (by decide)
            have q2' : 191 < bt s (i + 1) → contB s (i + 1) = false := fun q => by rw [hn1, decide_eq_false (by omega : ¬ bt s (i + 1) ≤ 191), Bool.and_false]
            have q1' : bt s (i + 1) < 128 → contB s (i + 1) = false := fun q => by rw [hn1, decide_eq_false (by omega : ¬ 128 ≤ bt s (i + 1)), Bool.false_and]
            have q3' : 128 ≤ bt s (i + 1) → bt s (i + 1) ≤ 191 → contB s (i + 1) = true := fun q q' => by rw [hn1, decide_eq_true q, decide_eq_true q']; rfl
            clear hn1
            generalize bt s (i + 1) = b at *
            by_cases q1 : (b : Int) < 128
            · have hbad := bad (q1' (by omega))
              rw [hbad, if_neg (by decide)]
              focus
                refine S.sq <| Q.rg <| Q.mv rfl <| Q.mv rfl <| Q.bi rfl rfl rfl <| Q.nt <| S.cT rfl (decide_eq_true (by omega)) <| UW.skip <| UQ.then <| S.sq <| UW.block <| S.sq <| Q.rg <| Q.mv rfl <| Q.mv rfl <| S.qu (Z.eq (u' := .v (.int .u8 (b : Int))) (Z.is (p := s) Tryz.underlying9 rfl rfl (by omega) (by omega)) (by rw [hbx])) <| ?_
                refine Q.bi rfl rfl rfl <| Q.mv rfl <| ?_
                refine S.tD 45 (fun hc45 => ?_) (fun hc45 => ?_)
                rotate_left
                omega
                refine Q.of <| Q.of <| Q.of <| Q.of <| Q.pk rfl rfl <| Q.nt <| S.cT rfl rfl <| Q.rg <| Q.as rfl <| Q.nt <| UW.ret <| UQ.passR <| UQ.blockR <| UQ.passR <| UQ.passR <| UQ.blockR <| UQ.passR <| S.rtR (fun _ => res_tmp rfl rfl) <| ?_
                rfl
            · by_cases q2 : (b : Int) > 191
              · have hbad := bad (q2' (by omega))
                rw [hbad, if_neg (by decide)]
                refine S.sq <| Q.rg <| Q.mv rfl <| Q.mv rfl <| Q.bi rfl rfl rfl <| Q.nt <| S.cT rfl (decide_eq_true (by omega)) <| UW.skip <| UQ.then <| S.sq <| UW.block <| S.sq <| Q.rg <| Q.mv rfl <| Q.mv rfl <| S.qu (Z.eq (u' := .v (.int .u8 (b : Int))) (Z.is (p := s) Tryz.underlying9 rfl rfl (by omega) (by omega)) (by rw [hbx])) <| ?_
                refine Q.bi rfl rfl rfl <| Q.mv rfl <| S.tF 45 (decide_eq_false (by omega)) <| Q.on (Z.mv rfl) <| Q.on (Z.mv rfl) <| Q.on (Z.eq (u' := .v (.int .u8 (b : Int))) (Z.is (p := s) Tryz.underlying9 rfl rfl (by omega) (by omega)) (by rw [hbx])) <| ?_
                refine Q.on (Z.bi rfl rfl rfl) <| Q.pk rfl rfl <| Q.nt <| S.cT rfl (decide_eq_true (by omega)) <| Q.rg <| Q.as rfl <| Q.nt <| UW.ret <| UQ.passR <| UQ.blockR <| UQ.passR <| UQ.passR <| UQ.blockR <| UQ.passR <| S.rtR (fun _ => res_tmp rfl rfl) <| ?_
                rfl
              · have hgood := q3' (by omega) (by omega)
                refine S.sq <| Q.rg <| Q.mv rfl <| Q.mv rfl <| Q.bi rfl rfl rfl <| Q.nt <| S.cT rfl (decide_eq_true (by omega)) <| UW.skip <| UQ.then <| S.sq <| UW.block <| S.sq <| Q.rg <| Q.mv rfl <| Q.mv rfl <| S.qu (Z.eq (u' := .v (.int .u8 (b : Int))) (Z.is (p := s) Tryz.underlying9 rfl rfl (by omega) (by omega)) (by rw [hbx])) <| ?_
                refine Q.bi rfl rfl rfl <| Q.mv rfl <| ?_
                refine S.tD 45 (fun hc45 => ?_) (fun hc45 => ?_)
                omega
                refine Q.on (Z.mv rfl) <| Q.on (Z.mv rfl) <| Q.on (Z.eq (u' := .v (.int .u8 (b : Int))) (Z.is (p := s) Tryz.underlying9 rfl rfl (by omega) (by omega)) (by rw [hbx])) <| ?_
                refine Q.on (Z.bi rfl rfl rfl) <| Q.pk rfl rfl <| Q.nt <| S.cF rfl (decide_eq_false (by omega)) <| UW.skip <| UQ.then <| S.rg <| Q.mv rfl <| S.qu (Z.mul (r := 64 * ra i) rfl rfl (IntWalk.i64_in _ (by omega))) <| Q.mv rfl <| Q.mv rfl <| S.qu (Z.eq (u' := .v (.int .u8 (b : Int))) (Z.is (p := s) Tryz.underlying9 rfl rfl (by omega) (by omega)) (by rw [hbx])) <| ?_
                refine Q.bi rfl rfl rfl <| S.qu (Z.cv (r := (b : Int).tmod 64) Tryz.underlying3 rfl (IntWalk.i64_in _ (by omega)) (by kernel_rfl)) <| S.qu (Z.add (r := ra (i + 1)) rfl rfl (by rw [hrs]; exact IntWalk.i64_in _ (by omega))) <| ?_
                refine Q.as rfl <| US.nil <| UQ.blockN <| UQ.then <| S.rg <| Q.mv rfl <| S.qu (Z.add (r := ((i + 1 + 1 : Nat) : Int)) rfl rfl (IntWalk.i64_in _ (by omega))) <| Q.as rfl <| US.nil <| ?_
                refine S.back (i + 1) ⟨rfl, rfl, rfl, rfl, trivial⟩ (.refl _) ?_ (by omega)
                exact ⟨hlt, fun j hj => by rcases Nat.lt_succ_iff_lt_or_eq.1 hj with h | h; exact hall j h; rw [h]; exact hgood⟩
          · obtain rfl : i = m := by omega
            have hok : (List.range i).all (fun i => contB s (i + 1)) = true := List.all_eq_true.2 fun j hj => hall j (List.mem_range.1 hj)
            rw [hok, if_pos rfl]
            have hgd : goodR least (ra i) = (decide (least ≤ ra i) && (!(decide (55296 ≤ ra i) && decide (ra i ≤ 57343)) && decide (ra i ≤ 1114111))) := rfl
            generalize goodR least (ra i) = gd at *
            generalize ra i = r at *
            have fin : ∀ x : AV, x = .v (.int .i64 (if gd = true then (i : Int) + 1 else 0)) → x = .v (.int .i64 (if gd = true then (i : Int) + 1 else 0)) := fun x h => h
            by_cases p1 : r < least
            · rw [decide_eq_false (by omega : ¬ least ≤ r), Bool.false_and] at hgd
              subst hgd
              focus
                refine S.sq <| Q.rg <| Q.mv rfl <| Q.mv rfl <| Q.bi rfl rfl rfl <| Q.nt <| S.cF rfl (decide_eq_false (by omega)) <| UW.exit <| UQ.pass <| UQ.pass <| UQ.here <| UQ.then <| Q.rg <| S.qu (Z.eq (u' := .sl (leastL.map fun c => [AV.v (.int .i64 c)])) (Z.bl row135 rfl rfl (lit_ok rfl)) rfl) <| Q.mv rfl <| S.qu (Z.ia sl135 rfl rfl (by omega) hgl (by rfl)) <| ?_
                refine S.qu (Z.lpc ty3 rfl) <| Q.as rfl <| Q.nt <| S.sq <| Q.rg <| Q.mv rfl <| Q.mv rfl <| Q.bi rfl rfl rfl <| Q.mv rfl <| ?_
                refine S.tD 66 (fun hc66 => ?_) (fun hc66 => ?_)
                rotate_left
                omega
                refine Q.of <| Q.of <| Q.of <| Q.ou <| Q.ou <| Q.of <| Q.pk rfl rfl <| Q.mv rfl <| Q.of <| Q.of <| Q.pk rfl rfl <| Q.nt <| S.cT rfl rfl <| Q.rg <| Q.as rfl <| Q.nt <| UW.ret <| UQ.passR <| S.rtR (fun _ => res_tmp rfl rfl) <| ?_
                rfl
            · rw [decide_eq_true (by omega : least ≤ r), Bool.true_and] at hgd
              by_cases p2 : r ≥ 55296
              · rw [decide_eq_true (by omega : 55296 ≤ r), Bool.true_and] at hgd
                by_cases p3 : r ≤ 57343
                · rw [decide_eq_true p3, Bool.not_true, Bool.false_and] at hgd
                  subst hgd
                  focus
                    refine S.sq <| Q.rg <| Q.mv rfl <| Q.mv rfl <| Q.bi rfl rfl rfl <| Q.nt <| S.cF rfl (decide_eq_false (by omega)) <| UW.exit <| UQ.pass <| UQ.pass <| UQ.here <| UQ.then <| Q.rg <| S.qu (Z.eq (u' := .sl (leastL.map fun c => [AV.v (.int .i64 c)])) (Z.bl row135 rfl rfl (lit_ok rfl)) rfl) <| Q.mv rfl <| S.qu (Z.ia sl135 rfl rfl (by omega) hgl (by rfl)) <| ?_
                    refine S.qu (Z.lpc ty3 rfl) <| Q.as rfl <| Q.nt <| S.sq <| Q.rg <| Q.mv rfl <| Q.mv rfl <| Q.bi rfl rfl rfl <| Q.mv rfl <| S.tF 66 (decide_eq_false (by omega)) <| Q.on (Z.mv rfl) <| Q.on (Z.bi rfl rfl rfl) <| Q.on (Z.mv rfl) <| ?_
                    refine S.tD 69 (fun hc69 => ?_) (fun hc69 => ?_)
                    rotate_left
                    omega
                    refine Q.on (Z.mv rfl) <| Q.on (Z.bi rfl rfl rfl) <| Q.on (Z.pick rfl rfl) <| Q.pk rfl rfl <| Q.mv rfl <| ?_
                    refine S.tD 74 (fun hc74 => ?_) (fun hc74 => ?_)
                    rotate_left
                    omega
                    refine Q.of <| Q.of <| Q.pk rfl rfl <| Q.nt <| S.cT rfl rfl <| Q.rg <| Q.as rfl <| Q.nt <| UW.ret <| UQ.passR <| S.rtR (fun _ => res_tmp rfl rfl) <| ?_
                    rfl
                · rw [decide_eq_false p3, Bool.not_false, Bool.true_and] at hgd
                  by_cases p4 : r > 1114111
                  · rw [decide_eq_false (by omega : ¬ r ≤ 1114111)] at hgd
                    subst hgd
                    focus
                      refine S.sq <| Q.rg <| Q.mv rfl <| Q.mv rfl <| Q.bi rfl rfl rfl <| Q.nt <| S.cF rfl (decide_eq_false (by omega)) <| UW.exit <| UQ.pass <| UQ.pass <| UQ.here <| UQ.then <| Q.rg <| S.qu (Z.eq (u' := .sl (leastL.map fun c => [AV.v (.int .i64 c)])) (Z.bl row135 rfl rfl (lit_ok rfl)) rfl) <| Q.mv rfl <| S.qu (Z.ia sl135 rfl rfl (by omega) hgl (by rfl)) <| ?_
                      refine S.qu (Z.lpc ty3 rfl) <| Q.as rfl <| Q.nt <| S.sq <| Q.rg <| Q.mv rfl <| Q.mv rfl <| Q.bi rfl rfl rfl <| Q.mv rfl <| ?_
                      refine S.tD 66 (fun hc66 => ?_) (fun hc66 => ?_)
                      omega
                      refine Q.on (Z.mv rfl) <| Q.on (Z.bi rfl rfl rfl) <| Q.on (Z.mv rfl) <| ?_
                      refine S.tD 69 (fun hc69 => ?_) (fun hc69 => ?_)
                      rotate_left
                      omega
                      refine Q.on (Z.mv rfl) <| Q.on (Z.bi rfl rfl rfl) <| Q.on (Z.pick rfl rfl) <| Q.pk rfl rfl <| Q.mv rfl <| ?_
                      refine S.tD 74 (fun hc74 => ?_) (fun hc74 => ?_)
                      omega
                      refine Q.on (Z.mv rfl) <| Q.on (Z.bi rfl rfl rfl) <| Q.pk rfl rfl <| Q.nt <| S.cT rfl (decide_eq_true (by omega)) <| Q.rg <| Q.as rfl <| Q.nt <| UW.ret <| UQ.passR <| S.rtR (fun _ => res_tmp rfl rfl) <| ?_
                      rfl
                  · rw [decide_eq_true (by omega : r ≤ 1114111)] at hgd
                    subst hgd
                    focus
                      refine S.sq <| Q.rg <| Q.mv rfl <| Q.mv rfl <| Q.bi rfl rfl rfl <| Q.nt <| S.cF rfl (decide_eq_false (by omega)) <| UW.exit <| UQ.pass <| UQ.pass <| UQ.here <| UQ.then <| Q.rg <| S.qu (Z.eq (u' := .sl (leastL.map fun c => [AV.v (.int .i64 c)])) (Z.bl row135 rfl rfl (lit_ok rfl)) rfl) <| Q.mv rfl <| S.qu (Z.ia sl135 rfl rfl (by omega) hgl (by rfl)) <| ?_
                      refine S.qu (Z.lpc ty3 rfl) <| Q.as rfl <| Q.nt <| S.sq <| Q.rg <| Q.mv rfl <| Q.mv rfl <| Q.bi rfl rfl rfl <| Q.mv rfl <| ?_
                      refine S.tD 66 (fun hc66 => ?_) (fun hc66 => ?_)
                      omega
                      refine Q.on (Z.mv rfl) <| Q.on (Z.bi rfl rfl rfl) <| Q.on (Z.mv rfl) <| ?_
                      refine S.tD 69 (fun hc69 => ?_) (fun hc69 => ?_)
                      rotate_left
                      omega
                      refine Q.on (Z.mv rfl) <| Q.on (Z.bi rfl rfl rfl) <| Q.on (Z.pick rfl rfl) <| Q.pk rfl rfl <| Q.mv rfl <| ?_
                      refine S.tD 74 (fun hc74 => ?_) (fun hc74 => ?_)
                      omega
                      refine Q.on (Z.mv rfl) <| Q.on (Z.bi rfl rfl rfl) <| Q.pk rfl rfl <| Q.nt <| S.cF rfl (decide_eq_false (by omega)) <| UW.skip <| UQ.then <| Q.rg <| Q.mv rfl <| S.qu (Z.add rfl rfl (IntWalk.i64_in _ (by omega))) <| Q.as rfl <| Q.nt <| UW.ret <| S.rtR (fun _ => res_tmp rfl rfl) <| ?_
                      rfl
              · rw [decide_eq_false (by omega : ¬ 55296 ≤ r), Bool.false_and, Bool.not_false, Bool.true_and, decide_eq_true (by omega : r ≤ 1114111)] at hgd
                subst hgd
                refine S.sq <| Q.rg <| Q.mv rfl <| Q.mv rfl <| Q.bi rfl rfl rfl <| Q.nt <| S.cF rfl (decide_eq_false (by omega)) <| UW.exit <| UQ.pass <| UQ.pass <| UQ.here <| UQ.then <| Q.rg <| S.qu (Z.eq (u' := .sl (leastL.map fun c => [AV.v (.int .i64 c)])) (Z.bl row135 rfl rfl (lit_ok rfl)) rfl) <| Q.mv rfl <| S.qu (Z.ia sl135 rfl rfl (by omega) hgl (by rfl)) <| ?_
                refine S.qu (Z.lpc ty3 rfl) <| Q.as rfl <| Q.nt <| S.sq <| Q.rg <| Q.mv rfl <| Q.mv rfl <| Q.bi rfl rfl rfl <| Q.mv rfl <| ?_
                refine S.tD 66 (fun hc66 => ?_) (fun hc66 => ?_)
                omega
                refine Q.on (Z.mv rfl) <| Q.on (Z.bi rfl rfl rfl) <| Q.on (Z.mv rfl) <| ?_
                refine S.tD 69 (fun hc69 => ?_) (fun hc69 => ?_)
                omega
                refine Q.of <| Q.of <| Q.on (Z.pick rfl rfl) <| Q.pk rfl rfl <| Q.mv rfl <| Q.on (Z.mv rfl) <| Q.on (Z.bi rfl rfl rfl) <| Q.pk rfl rfl <| Q.nt <| S.cF rfl (decide_eq_false (by omega)) <| UW.skip <| UQ.then <| Q.rg <| Q.mv rfl <| S.qu (Z.add rfl rfl (IntWalk.i64_in _ (by omega))) <| Q.as rfl <| Q.nt <| UW.ret <| S.rtR (fun _ => res_tmp rfl rfl) <| ?_
                rfl
        · obtain rfl : m = 0 := by omega
          have hone : oneV s = 1 := by
            unfold oneV
            rw [if_neg h0, hm, if_neg (by decide), if_neg (by omega), if_pos (by rfl)]
            unfold oneN goodR
            have e : rAcc s (bt s 0 : Int) 0 = (bt s 0 : Int) := rfl
            rw [e, decide_eq_true (by omega : (0 : Int) ≤ (bt s 0 : Int)), decide_eq_false (by omega : ¬ 55296 ≤ (bt s 0 : Int)), decide_eq_true (by omega : (bt s 0 : Int) ≤ 1114111)]
            rfl
          have hgl : (leastL.map fun c => [AV.v (.int .i64 c)])[0]? = some [.v (.int .i64 0)] := rfl
          have hll : (leastL.map fun c => [AV.v (.int .i64 c)]).length = 4 := rfl
          rw [hone]
          rw [hm] at hmo m0 m1 hm3
          generalize (bt s 0 : Int) = c0 at *
          refine UCall (n := 80) (H0 := H) (objs := []) Tryz.func97 (by kernel_rfl) rfl (by rw [Tryz.ntmps97]; rfl) .nil <| ?_
          refine Q.rg <| Q.as rfl <| Q.nt <| S.sq <| Q.rg <| Q.mv rfl <| S.qu (Z.eq (u' := .v (.bool false)) (Z.bs rfl rfl rfl) (by rw [hne])) <| ?_
          refine Q.mv rfl <| Q.on (Z.mv rfl) <| Q.on (Z.eq (u' := .v (.int .u8 c0)) (Z.is (p := s) Tryz.underlying9 rfl rfl (by omega) (by omega)) (by rw [h00])) <| ?_
          refine Q.on (Z.call rfl rfl (fun H => hmo H)) <| Q.on (Z.bi rfl rfl rfl) <| Q.pk rfl rfl <| Q.mv rfl <| S.tF 15 (decide_eq_false (by omega)) <| Q.on (Z.mv rfl) <| Q.on (Z.eq (u' := .v (.int .u8 c0)) (Z.is (p := s) Tryz.underlying9 rfl rfl (by omega) (by omega)) (by rw [h00])) <| ?_
          refine Q.on (Z.call rfl rfl (fun H => hmo H)) <| Q.on (Z.mv rfl) <| Q.on (Z.lnt Tryz.underlying9 rfl) <| Q.on (Z.bi rfl rfl rfl) <| Q.pk rfl rfl <| Q.nt <| S.cF rfl (decide_eq_false (by omega)) <| UW.skip <| UQ.then <| Q.rg <| Q.mv rfl <| S.qu (Z.eq (u' := .v (.int .u8 c0)) (Z.is (p := s) Tryz.underlying9 rfl rfl (by omega) (by omega)) (by rw [h00])) <| ?_
          refine S.qu (Z.call rfl rfl (fun H => hmo H)) <| Q.as rfl <| Q.nt <| Q.rg <| Q.mv rfl <| S.qu (Z.eq (u' := .v (.int .u8 c0)) (Z.is (p := s) Tryz.underlying9 rfl rfl (by omega) (by omega)) (by rw [h00])) <| ?_
          refine S.qu (Z.cv (r := c0) Tryz.underlying3 rfl (IntWalk.i64_in _ (by omega)) (by kernel_rfl)) <| Q.as rfl <| Q.nt <| S.sq <| Q.rg <| Q.mv rfl <| Q.bi rfl rfl rfl <| Q.nt <| S.cF rfl (decide_eq_false (by omega)) <| UW.skip <| UQ.then <| S.sq <| Q.rg <| Q.as rfl <| Q.nt <| UW.block <| S.loop (fun _ : Unit => [(5, .v (.int .i64 1)), (3, .v (.int .i64 ((0 : Nat) : Int))), (4, .v (.int .i64 c0)), (0, .v (.string s))]) (fun _ => []) (fun _ => True) (fun _ => 0) () trivial ⟨rfl, rfl, rfl, rfl, trivial⟩ (.refl _) <| ?_
          rintro _ _
          refine S.sq <| Q.rg <| Q.mv rfl <| Q.mv rfl <| Q.bi rfl rfl rfl <| Q.nt <| S.cF rfl (decide_eq_false (by omega)) <| UW.exit <| UQ.pass <| UQ.pass <| UQ.here <| UQ.then <| Q.rg <| S.qu (Z.eq (u' := .sl (leastL.map fun c => [AV.v (.int .i64 c)])) (Z.bl row135 rfl rfl (lit_ok rfl)) rfl) <| Q.mv rfl <| S.qu (Z.ia sl135 rfl rfl (by omega) hgl (by rfl)) <| ?_
          refine S.qu (Z.lpc ty3 rfl) <| Q.as rfl <| Q.nt <| S.sq <| Q.rg <| Q.mv rfl <| Q.mv rfl <| Q.bi rfl rfl rfl <| Q.mv rfl <| ?_
          refine S.tD 66 (fun hc66 => ?_) (fun hc66 => ?_)
          omega
          refine Q.on (Z.mv rfl) <| Q.on (Z.bi rfl rfl rfl) <| Q.on (Z.mv rfl) <| ?_
          refine S.tD 69 (fun hc69 => ?_) (fun hc69 => ?_)
          omega
          refine Q.of <| Q.of <| Q.on (Z.pick rfl rfl) <| Q.pk rfl rfl <| Q.mv rfl <| Q.on (Z.mv rfl) <| Q.on (Z.bi rfl rfl rfl) <| Q.pk rfl rfl <| Q.nt <| S.cF rfl (decide_eq_false (by omega)) <| UW.skip <| UQ.then <| Q.rg <| Q.mv rfl <| S.qu (Z.add rfl rfl (IntWalk.i64_in _ (by omega))) <| Q.as rfl <| Q.nt <| UW.ret <| S.rtR (fun _ => res_tmp rfl rfl) <| ?_
          rfl
end Go.Proofs.YtgmfgmbgmjbdhaaGreatDoor
end
section
namespace Go.Proofs.YtgmfgmbgmjbdhaaGreatDoor
open Go Go.RowKit Go.Eng
set_option maxRecDepth 100000
set_option linter.unusedSimpArgs false
set_option linter.unusedVariables false
def chkRF (s : ByteArray) : Nat → Nat → Int
  | 0, _ => -1
  | f + 1, pos => if pos < s.size then (if oneV (s.extract pos s.size) = 0 then (pos : Int) else chkRF s f (pos + (oneV (s.extract pos s.size)).toNat)) else -1
def chkR (s : ByteArray) : Int := chkRF s (s.size + 1) 0
theorem oneN_bd (s : ByteArray) (n : Nat) (l r0 : Int) : 0 ≤ oneN s n l r0 ∧ oneN s n l r0 ≤ n + 1 := by
  unfold oneN; repeat' split
  all_goals omega
theorem oneV_bd (s : ByteArray) : 0 ≤ oneV s ∧ oneV s ≤ s.size := by
  unfold oneV
  by_cases h0 : s.size = 0
  · rw [if_pos h0]; omega
  · rw [if_neg h0]
    have b0 := oneN_bd s 0 0 (bt s 0)
    have b1 := oneN_bd s 1 128 ((bt s 0 : Int).tmod 32)
    have b2 := oneN_bd s 2 2048 ((bt s 0 : Int).tmod 16)
    have b3 := oneN_bd s 3 65536 ((bt s 0 : Int).tmod 8)
    have hm := moreN_le (bt s 0)
    repeat' split
    all_goals omega
theorem checkR_spec (s : ByteArray) (hs : s.size ≤ 4000000) (H : Hp) : ACall Tryz.prog 58 [.v (.string s)] H (IsR H (.v (.int .i64 (chkR s)))) := by
  refine UCall (n := 19) (H0 := H) (objs := []) Tryz.func58 (by kernel_rfl) rfl (by rw [Tryz.ntmps58]; rfl) .nil <| ?_
  refine Q.rg <| Q.as rfl <| Q.nt <| Q.rg <| Q.as rfl <| Q.nt <| UW.seq <| UW.block <| UW.loop (fun p : Nat × Nat => [(3, .v (.int .i64 (p.1 : Int))), (0, .v (.string s))]) (fun p => []) (fun p => p.1 ≤ s.size ∧ s.size - p.1 < p.2 ∧ chkRF s p.2 p.1 = chkR s) (fun p => p.2) (0, s.size + 1) ⟨Nat.zero_le _, by simp, rfl⟩ ⟨rfl, rfl, trivial⟩ (.refl _) <| ?_
  rintro ⟨pos, f⟩ ⟨hp, hf, hc⟩
  simp only at hp hf hc
  obtain ⟨f, rfl⟩ : ∃ f', f = f' + 1 := ⟨f - 1, by omega⟩
  refine UW.seq <| Q.rg <| Q.mv rfl <| Q.mv rfl <| US.len_str rfl (by decide) rfl rfl Tryz.underlying9 rfl <| Q.bi rfl rfl rfl <| Q.nt <| ?_
  refine UW.cond rfl (fun h => ?_) (fun h => ?_)
  · have h := of_decide_eq_true h
    have hlt : pos < s.size := by simp only at h; omega
    have hbd := oneV_bd (s.extract pos s.size)
    rw [ByteArray.size_extract] at hbd
    refine UW.skip <| UQ.then <| UW.block <| Q.rg <| Q.mv rfl <| Q.mv rfl <| US.slice_str rfl (by decide) rfl rfl Tryz.underlying9 rfl (.lo rfl) (by simp only; omega) (by omega) <| ?_
    refine US.call_pure rfl (by decide) rfl rfl rfl rfl (fun _ => one_spec _ (by rw [ByteArray.size_extract]; omega) _) <| ?_
    refine Q.as rfl <| Q.nt <| UW.seq <| Q.rg <| ?_
    by_cases h0 : oneV (s.extract pos s.size) = 0
    · refine Q.mv rfl <| US.bin_int rfl (by decide) rfl rfl rfl rfl (r := .bool true) (by (simp [iop, sop, h0]; done)) <| ?_
      refine Q.nt <| ?_
      refine UW.cond rfl (fun _ => ?_) (fun h => absurd h (by simp))
      refine Q.rg <| Q.mv rfl <| Q.as rfl <| Q.nt <| UW.ret <| UQ.passR <| UQ.blockR <| UQ.passR <| UQ.blockR <| UQ.passR <| ?_
      refine retR [] (fun _ => res_tmp rfl rfl) (.refl _) fun hd => ⟨?_, rfl⟩
      rw [← hc, chkRF, if_pos hlt, if_pos h0]
    · refine Q.mv rfl <| US.bin_int rfl (by decide) rfl rfl rfl rfl (r := .bool false) (by (simp [iop, sop, h0]; done)) <| ?_
      refine Q.nt <| UW.cond rfl (fun h => absurd h (by simp)) fun _ => ?_
      refine UW.skip <| UQ.then <| UW.region <| Q.mv rfl <| Q.mv rfl <| US.add rfl (by decide) rfl rfl rfl rfl (r := ((pos + (oneV (s.extract pos s.size)).toNat : Nat) : Int)) (Eq.trans (IntWalk.i64_in _ (by simp only; omega)) (by simp only; omega)) <| ?_
      refine Q.as rfl <| US.keep [(3, .v (.int .i64 ((pos + (oneV (s.extract pos s.size)).toNat : Nat) : Int))), (0, .v (.string s))] [] ⟨rfl, rfl, trivial⟩ (.refl _) <| US.nil <| UQ.blockN <| ?_
      exact fun hd => ⟨(pos + (oneV (s.extract pos s.size)).toNat, f), ⟨by simp only; omega, by simp only; omega, by
        simp only
        rw [← hc]
        conv => rhs; rw [chkRF, if_pos hlt, if_neg h0]⟩, by simp, hd, rfl, rfl⟩
  · have h := of_decide_eq_false h
    refine UW.exit <| UQ.pass <| UQ.pass <| UQ.here <| UQ.then <| Q.rg <| Q.as rfl <| Q.nt <| UW.ret <| ?_
    refine retR [] (fun _ => res_tmp rfl rfl) (.refl _) fun hd => ⟨?_, rfl⟩
    rw [← hc, chkRF, if_neg (by simp only at h; omega)]
theorem bt_extract (s : ByteArray) (pos k : Nat) (h : pos + k < s.size) : bt (s.extract pos s.size) k = bt s (pos + k) := by
  rw [bt_at _ k (by rw [ByteArray.size_extract]; omega), bt_at s (pos + k) h]
  congr 1
  simp [ByteArray.getElem_extract]
theorem cont_iff (b : Nat) (hb : b < 256) : (b / 64 == 2) = (decide (128 ≤ b) && decide (b ≤ 191)) := by
  rw [Bool.eq_iff_iff]
  simp only [beq_iff_eq, Bool.and_eq_true, decide_eq_true_eq]
  omega
/-- What the first rune's length is, in plain numbers. -/
def len1 (m B0 B1 B2 B3 : Nat) : Nat :=
  if B0 < 128 then 1
  else if 194 ≤ B0 ∧ B0 ≤ 223 ∧ 1 < m ∧ 128 ≤ B1 ∧ B1 ≤ 191 then 2
  else if 224 ≤ B0 ∧ B0 ≤ 239 ∧ 2 < m ∧ 128 ≤ B1 ∧ B1 ≤ 191 ∧ 128 ≤ B2 ∧ B2 ≤ 191 ∧ 2048 ≤ 64 * (64 * (B0 % 16) + B1 % 64) + B2 % 64 ∧ ¬ (55296 ≤ 64 * (64 * (B0 % 16) + B1 % 64) + B2 % 64 ∧ 64 * (64 * (B0 % 16) + B1 % 64) + B2 % 64 ≤ 57343) then 3
  else if 240 ≤ B0 ∧ B0 ≤ 244 ∧ 3 < m ∧ 128 ≤ B1 ∧ B1 ≤ 191 ∧ 128 ≤ B2 ∧ B2 ≤ 191 ∧ 128 ≤ B3 ∧ B3 ≤ 191 ∧ 65536 ≤ 64 * (64 * (64 * (B0 % 8) + B1 % 64) + B2 % 64) + B3 % 64 ∧ 64 * (64 * (64 * (B0 % 8) + B1 % 64) + B2 % 64) + B3 % 64 ≤ 1114111 then 4
  else 0
theorem oneN_1 (t : ByteArray) (l r0 : Int) : oneN t 1 l r0 = if contB t 1 = true ∧ goodR l (64 * r0 + (bt t 1 : Int).tmod 64) = true then 2 else 0 := by
  unfold oneN
  have : (List.range 1).all (fun i => contB t (i + 1)) = contB t 1 := by simp [List.range_succ]
  rw [this]
  cases h1 : contB t 1 <;> cases h2 : goodR l (rAcc t r0 1) <;> simp_all [rAcc]
theorem oneN_2 (t : ByteArray) (l r0 : Int) : oneN t 2 l r0 = if (contB t 1 = true ∧ contB t 2 = true) ∧ goodR l (64 * (64 * r0 + (bt t 1 : Int).tmod 64) + (bt t 2 : Int).tmod 64) = true then 3 else 0 := by
  unfold oneN
  have : (List.range 2).all (fun i => contB t (i + 1)) = (contB t 1 && contB t 2) := by simp [List.range_succ]
  rw [this]
  cases h1 : contB t 1 <;> cases h3 : contB t 2 <;> cases h2 : goodR l (rAcc t r0 2) <;> simp_all [rAcc]
theorem oneN_3 (t : ByteArray) (l r0 : Int) : oneN t 3 l r0 = if (contB t 1 = true ∧ contB t 2 = true ∧ contB t 3 = true) ∧ goodR l (64 * (64 * (64 * r0 + (bt t 1 : Int).tmod 64) + (bt t 2 : Int).tmod 64) + (bt t 3 : Int).tmod 64) = true then 4 else 0 := by
  unfold oneN
  have : (List.range 3).all (fun i => contB t (i + 1)) = (contB t 1 && (contB t 2 && contB t 3)) := by simp [List.range_succ, Bool.and_assoc]
  rw [this]
  cases h1 : contB t 1 <;> cases h3 : contB t 2 <;> cases h4 : contB t 3 <;> cases h2 : goodR l (rAcc t r0 3) <;> simp_all [rAcc]
theorem oneV_len1 (t : ByteArray) (h : 0 < t.size) : oneV t = (len1 t.size (bt t 0) (bt t 1) (bt t 2) (bt t 3) : Int) := by
  have b0 := bt_lt t 0
  have b1 := bt_lt t 1
  have b2 := bt_lt t 2
  have b3 := bt_lt t 3
  have e32 : (bt t 0 : Int).tmod 32 = ((bt t 0 % 32 : Nat) : Int) := rfl
  have e16 : (bt t 0 : Int).tmod 16 = ((bt t 0 % 16 : Nat) : Int) := rfl
  have e8 : (bt t 0 : Int).tmod 8 = ((bt t 0 % 8 : Nat) : Int) := rfl
  have e1 : (bt t 1 : Int).tmod 64 = ((bt t 1 % 64 : Nat) : Int) := rfl
  have e2 : (bt t 2 : Int).tmod 64 = ((bt t 2 % 64 : Nat) : Int) := rfl
  have e3 : (bt t 3 : Int).tmod 64 = ((bt t 3 % 64 : Nat) : Int) := rfl
  have e0 : oneN t 0 0 (bt t 0) = if goodR 0 (bt t 0) = true then 1 else 0 := by unfold oneN; simp [rAcc]
  have key : ∀ m : Int, moreN (bt t 0) = m → (m < 0 → len1 t.size (bt t 0) (bt t 1) (bt t 2) (bt t 3) = 0) → (0 ≤ m → (t.size : Int) ≤ m → len1 t.size (bt t 0) (bt t 1) (bt t 2) (bt t 3) = 0) →
      (m = 0 → oneN t 0 0 (bt t 0) = (len1 t.size (bt t 0) (bt t 1) (bt t 2) (bt t 3) : Int)) → (m = 1 → m < t.size → oneN t 1 128 ((bt t 0 : Int).tmod 32) = (len1 t.size (bt t 0) (bt t 1) (bt t 2) (bt t 3) : Int)) → (m = 2 → m < t.size → oneN t 2 2048 ((bt t 0 : Int).tmod 16) = (len1 t.size (bt t 0) (bt t 1) (bt t 2) (bt t 3) : Int)) →
      (m = 3 → m < t.size → oneN t 3 65536 ((bt t 0 : Int).tmod 8) = (len1 t.size (bt t 0) (bt t 1) (bt t 2) (bt t 3) : Int)) → oneV t = (len1 t.size (bt t 0) (bt t 1) (bt t 2) (bt t 3) : Int) := by
    intro m hm k1 k2 q0 q1 q2 q3
    have hm3 := moreN_le (bt t 0)
    rw [hm] at hm3
    unfold oneV
    rw [if_neg (by omega), hm]
    by_cases h1 : m < 0
    · rw [if_pos h1, k1 h1]; rfl
    · rw [if_neg h1]
      by_cases h2 : (t.size : Int) ≤ m
      · rw [if_pos h2, k2 (by omega) h2]; rfl
      · rw [if_neg h2]
        by_cases h3 : m = 0
        · rw [if_pos h3]; exact q0 h3
        · rw [if_neg h3]
          by_cases h4 : m = 1
          · rw [if_pos h4]; exact q1 h4 (by omega)
          · rw [if_neg h4]
            by_cases h5 : m = 2
            · rw [if_pos h5]; exact q2 h5 (by omega)
            · rw [if_neg h5]; exact q3 (by omega) (by omega)
  have hmore : ∀ m : Int, (if (bt t 0 : Int) < 128 then (0 : Int) else if 194 ≤ (bt t 0 : Int) ∧ (bt t 0 : Int) ≤ 223 then 1 else if 224 ≤ (bt t 0 : Int) ∧ (bt t 0 : Int) ≤ 239 then 2 else if 240 ≤ (bt t 0 : Int) ∧ (bt t 0 : Int) ≤ 244 then 3 else -1) = m → moreN (bt t 0) = m := fun m h => h
  refine key _ (hmore _ rfl) ?_ ?_ ?_ ?_ ?_ ?_
  all_goals (try rw [oneN_1]); (try rw [oneN_2]); (try rw [oneN_3]); (try rw [e0])
  all_goals (try rw [e32]); (try rw [e16]); (try rw [e8])
  all_goals (try rw [e1]); (try rw [e2]); (try rw [e3])
  all_goals unfold len1
  all_goals (try unfold goodR)
  all_goals (try unfold contB)
  all_goals generalize bt t 0 = B0 at *
  all_goals generalize bt t 1 = B1 at *
  all_goals generalize bt t 2 = B2 at *
  all_goals generalize bt t 3 = B3 at *
  all_goals generalize t.size = m at *
  all_goals (try simp only [Bool.and_eq_true, Bool.not_eq_true', Bool.and_eq_false_iff, decide_eq_true_eq, decide_eq_false_iff_not])
  all_goals clear key hmore e32 e16 e8 e1 e2 e3 e0
  · intro h1
    repeat' split at h1
    all_goals first | omega | (repeat' split) <;> omega
  · intro h1 h2
    repeat' split at h1
    all_goals first | omega | skip
    all_goals (repeat' split) <;> omega
  · intro h1
    repeat' split at h1
    all_goals first | omega | (repeat' split) <;> omega
  · intro h1 h2
    rw [h1] at h2
    repeat' split at h1
    all_goals first | omega | skip
    all_goals (repeat' split) <;> omega
  · intro h1 h2
    rw [h1] at h2
    repeat' split at h1
    all_goals first | omega | skip
    all_goals (repeat' split) <;> omega
  · intro h1 h2
    rw [h1] at h2
    repeat' split at h1
    all_goals first | omega | skip
    all_goals (repeat' split) <;> omega
theorem decode_bt (s : ByteArray) (pos : Nat) : Utf8.decode s pos =
    (if bt s pos < 128 then (bt s pos, 1)
     else if (bt s pos / 32 == 6 && (decide (pos + 1 < s.size) && bt s (pos + 1) / 64 == 2)) = true then
       (if bt s pos % 32 * 64 + bt s (pos + 1) % 64 ≥ 128 then (bt s pos % 32 * 64 + bt s (pos + 1) % 64, 2) else (65533, 1))
     else if (bt s pos / 16 == 14 && (decide (pos + 1 < s.size) && bt s (pos + 1) / 64 == 2) && (decide (pos + 2 < s.size) && bt s (pos + 2) / 64 == 2)) = true then
       (if (decide (bt s pos % 16 * 4096 + bt s (pos + 1) % 64 * 64 + bt s (pos + 2) % 64 ≥ 2048) && Utf8.valid (bt s pos % 16 * 4096 + bt s (pos + 1) % 64 * 64 + bt s (pos + 2) % 64 : Nat)) = true then (bt s pos % 16 * 4096 + bt s (pos + 1) % 64 * 64 + bt s (pos + 2) % 64, 3) else (65533, 1))
     else if (bt s pos / 8 == 30 && (decide (pos + 1 < s.size) && bt s (pos + 1) / 64 == 2) && (decide (pos + 2 < s.size) && bt s (pos + 2) / 64 == 2) && (decide (pos + 3 < s.size) && bt s (pos + 3) / 64 == 2)) = true then
       (if (decide (bt s pos % 8 * 262144 + bt s (pos + 1) % 64 * 4096 + bt s (pos + 2) % 64 * 64 + bt s (pos + 3) % 64 ≥ 65536) && Utf8.valid (bt s pos % 8 * 262144 + bt s (pos + 1) % 64 * 4096 + bt s (pos + 2) % 64 * 64 + bt s (pos + 3) % 64 : Nat)) = true then (bt s pos % 8 * 262144 + bt s (pos + 1) % 64 * 4096 + bt s (pos + 2) % 64 * 64 + bt s (pos + 3) % 64, 4) else (65533, 1))
     else (65533, 1)) := rfl
theorem dec_bad (s : ByteArray) (pos : Nat) (h : pos < s.size) (hl : len1 (s.size - pos) (bt s pos) (bt s (pos + 1)) (bt s (pos + 2)) (bt s (pos + 3)) = 0) :
    Utf8.decode s pos = (65533, 1) ∧ ¬ (3 ≤ s.size - pos ∧ bt s pos = 239 ∧ bt s (pos + 1) = 191 ∧ bt s (pos + 2) = 189) := by
  have b0 := bt_lt s pos
  have b1 := bt_lt s (pos + 1)
  have b2 := bt_lt s (pos + 2)
  have b3 := bt_lt s (pos + 3)
  rw [decode_bt]
  unfold len1 at hl
  unfold Utf8.valid
  generalize bt s pos = B0 at *
  generalize bt s (pos + 1) = B1 at *
  generalize bt s (pos + 2) = B2 at *
  generalize bt s (pos + 3) = B3 at *
  simp only [Bool.and_eq_true, Bool.or_eq_true, beq_iff_eq, decide_eq_true_eq]
  repeat' split at hl
  all_goals first | omega | skip
  constructor
  · repeat' split
    all_goals first | rfl | (exfalso; omega)
  · omega
theorem dec_good (s : ByteArray) (pos : Nat) (h : pos < s.size) (hl : len1 (s.size - pos) (bt s pos) (bt s (pos + 1)) (bt s (pos + 2)) (bt s (pos + 3)) ≠ 0) :
    (Utf8.decode s pos).2 = len1 (s.size - pos) (bt s pos) (bt s (pos + 1)) (bt s (pos + 2)) (bt s (pos + 3)) ∧ ((Utf8.decode s pos).1 = 65533 → 3 ≤ s.size - pos ∧ bt s pos = 239 ∧ bt s (pos + 1) = 191 ∧ bt s (pos + 2) = 189) := by
  have b0 := bt_lt s pos
  have b1 := bt_lt s (pos + 1)
  have b2 := bt_lt s (pos + 2)
  have b3 := bt_lt s (pos + 3)
  rw [decode_bt]
  unfold len1 at hl ⊢
  unfold Utf8.valid
  generalize bt s pos = B0 at *
  generalize bt s (pos + 1) = B1 at *
  generalize bt s (pos + 2) = B2 at *
  generalize bt s (pos + 3) = B3 at *
  simp only [Bool.and_eq_true, Bool.or_eq_true, beq_iff_eq, decide_eq_true_eq]
  repeat' split at hl
  all_goals first | omega | skip
  all_goals (repeat' split)
  all_goals omega
  all_goals (refine ⟨by omega, fun hc => ?_⟩)
  all_goals (simp only at hc)
  all_goals omega
theorem pre_err (t : ByteArray) : pre t errB = true ↔ 3 ≤ t.size ∧ bt t 0 = 239 ∧ bt t 1 = 191 ∧ bt t 2 = 189 := by
  unfold pre
  rw [Bool.and_eq_true, decide_eq_true_eq, beq_iff_eq, Lib.extract_toList, Lib.toList_data]
  obtain ⟨⟨l⟩⟩ := t
  match l with
  | [] => simp [errB, ByteArray.size]
  | [a] => simp [errB, ByteArray.size]
  | [a, b] => simp [errB, ByteArray.size]
  | a :: b :: c :: r =>
    have e0 : bt ⟨⟨a :: b :: c :: r⟩⟩ 0 = a.toNat := rfl
    have e1 : bt ⟨⟨a :: b :: c :: r⟩⟩ 1 = b.toNat := rfl
    have e2 : bt ⟨⟨a :: b :: c :: r⟩⟩ 2 = c.toNat := rfl
    rw [e0, e1, e2]
    have h3 : (3 : Nat) ≤ (ByteArray.mk (a :: b :: c :: r).toArray).size := by simp [ByteArray.size]
    have hs : errB.size = 3 := rfl
    have he : errB.data.toList = [239, 191, 189] := rfl
    rw [hs, he]
    have hu : ∀ (x : UInt8) (n : Nat) (hn : n < 256), x = UInt8.ofNat n ↔ x.toNat = n := by
      intro x n hn
      rw [← UInt8.toNat_inj, UInt8.toNat_ofNat']
      omega
    constructor
    · rintro ⟨_, h⟩
      simp at h
      obtain ⟨rfl, rfl, rfl⟩ := h
      exact ⟨h3, rfl, rfl, rfl⟩
    · rintro ⟨_, q0, q1, q2⟩
      refine ⟨h3, ?_⟩
      have r0 := (hu a 239 (by decide)).2 q0
      have r1 := (hu b 191 (by decide)).2 q1
      have r2 := (hu c 189 (by decide)).2 q2
      subst r0 r1 r2
      rfl
theorem pos_len (s : ByteArray) (pos : Nat) : (s.extract pos s.size).size = s.size - pos := by rw [ByteArray.size_extract]; omega
theorem len1_congr {m B0 B1 B2 B3 C1 C2 C3 : Nat} (h1 : 1 < m → B1 = C1) (h2 : 2 < m → B2 = C2) (h3 : 3 < m → B3 = C3) : len1 m B0 B1 B2 B3 = len1 m B0 C1 C2 C3 := by
  by_cases q3 : 3 < m
  · rw [h1 (by omega), h2 (by omega), h3 q3]
  · by_cases q2 : 2 < m
    · rw [h1 (by omega), h2 q2]
      unfold len1
      repeat' split
      all_goals first | rfl | omega
    · by_cases q1 : 1 < m
      · rw [h1 q1]
        unfold len1
        repeat' split
        all_goals first | rfl | omega
      · unfold len1
        repeat' split
        all_goals first | rfl | omega
theorem oneV_at (s : ByteArray) (pos : Nat) (h : pos < s.size) : oneV (s.extract pos s.size) = (len1 (s.size - pos) (bt s pos) (bt s (pos + 1)) (bt s (pos + 2)) (bt s (pos + 3)) : Int) := by
  rw [oneV_len1 _ (by rw [pos_len]; omega), pos_len, bt_extract s pos 0 (by omega)]
  refine congrArg (fun n : Nat => (n : Int)) <| ?_
  exact len1_congr (fun h => bt_extract s pos 1 (by omega)) (fun h => bt_extract s pos 2 (by omega)) (fun h => bt_extract s pos 3 (by omega))
theorem bad_iff (s : ByteArray) (pos : Nat) (h : pos < s.size) : (badAt s pos = true ∧ oneV (s.extract pos s.size) = 0) ∨ (badAt s pos = false ∧ oneV (s.extract pos s.size) ≠ 0 ∧ (oneV (s.extract pos s.size)).toNat = (Utf8.decode s pos).2) := by
  have hpre : pre (s.extract pos s.size) errB = true ↔ 3 ≤ s.size - pos ∧ bt s pos = 239 ∧ bt s (pos + 1) = 191 ∧ bt s (pos + 2) = 189 := by
    rw [pre_err, pos_len]
    constructor
    · rintro ⟨q, q0, q1, q2⟩
      rw [bt_extract s pos 0 (by omega)] at q0
      rw [bt_extract s pos 1 (by omega)] at q1
      rw [bt_extract s pos 2 (by omega)] at q2
      exact ⟨q, q0, q1, q2⟩
    · rintro ⟨q, q0, q1, q2⟩
      rw [bt_extract s pos 0 (by omega), bt_extract s pos 1 (by omega), bt_extract s pos 2 (by omega)]
      exact ⟨q, q0, q1, q2⟩
  rw [oneV_at s pos h]
  by_cases hl : len1 (s.size - pos) (bt s pos) (bt s (pos + 1)) (bt s (pos + 2)) (bt s (pos + 3)) = 0
  · obtain ⟨q1, q2⟩ := dec_bad s pos h hl
    refine .inl ⟨?_, by rw [hl]; rfl⟩
    have : pre (s.extract pos s.size) errB = false := by
      cases hp : pre (s.extract pos s.size) errB with
      | false => rfl
      | true => exact absurd (hpre.1 hp) q2
    unfold badAt
    rw [q1, this]; rfl
  · obtain ⟨q1, q2⟩ := dec_good s pos h hl
    refine .inr ⟨?_, by omega, by rw [q1]; omega⟩
    unfold badAt
    by_cases hc : (Utf8.decode s pos).1 = 65533
    · rw [hpre.2 (q2 hc)]; simp
    · have : ((Utf8.decode s pos).1 == 65533) = false := by simpa using hc
      rw [this]; rfl
theorem chk_eq (s : ByteArray) : chk s = chkR s := by
  have : ∀ f pos, chkF s f pos = chkRF s f pos := by
    intro f
    induction f with
    | zero => intro pos; rfl
    | succ f ih =>
      intro pos
      rw [chkF, chkRF]
      by_cases h : pos < s.size
      · rw [if_pos h, if_pos h]
        rcases bad_iff s pos h with ⟨q1, q2⟩ | ⟨q1, q2, q3⟩
        · rw [if_pos q1, if_pos q2]
        · rw [if_neg (by rw [q1]; simp), if_neg q2, q3, ih]
      · rw [if_neg h, if_neg h]
  exact this _ _
end Go.Proofs.YtgmfgmbgmjbdhaaGreatDoor
end
