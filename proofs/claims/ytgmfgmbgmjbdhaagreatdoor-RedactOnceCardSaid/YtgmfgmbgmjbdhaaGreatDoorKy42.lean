/- Signs of 64 read back, as the document does it. -/
import Derived.Test.YtgmfgmbgmjbdhaaGreatDoorKy41
namespace Go.Proofs.YtgmfgmbgmjbdhaaGreatDoor
open Go Go.RowKit Go.Eng
set_option linter.unusedSimpArgs false
set_option linter.unusedVariables false
set_option maxRecDepth 100000
set_option maxHeartbeats 4000000
def sgnI (c : Int) : Int := match (List.range 64).find? (fun i : Nat => bAt signsB (i : Int) == c) with | some i => (i : Int) | none => -1
theorem sgn_found {c : Int} {i : Nat} (hi : i < 64) (h : bAt signsB (i : Int) = c) (hall : ∀ j : Nat, j < i → ¬ bAt signsB (j : Int) = c) : sgnI c = i := by
  have e : (List.range 64).find? (fun i : Nat => bAt signsB (i : Int) == c) = some i := List.find?_range_eq_some.2 ⟨by simp [h], List.mem_range.2 hi, fun j hj => by simp [hall j hj]⟩
  unfold sgnI
  rw [e]
theorem sgn_none {c : Int} (hall : ∀ j : Nat, j < 64 → ¬ bAt signsB (j : Int) = c) : sgnI c = -1 := by
  have e : (List.range 64).find? (fun i : Nat => bAt signsB (i : Int) == c) = none := List.find?_eq_none.2 fun j hj => by simp [hall j (List.mem_range.1 hj)]
  unfold sgnI
  rw [e]
theorem sgnI_bd (c : Int) : -1 ≤ sgnI c ∧ sgnI c < 64 := by
  unfold sgnI
  split
  · rename_i i h
    have := (List.find?_range_eq_some.1 h).2.1
    rw [List.mem_range] at this
    omega
  · omega
theorem sgn_all : (List.range 64).all (fun d : Nat => sgnI (bAt signsB (d : Int)) == (d : Int)) = true := by kernel_rfl
theorem sgn_back {d : Int} (h0 : 0 ≤ d) (h1 : d < 64) : sgnI (bAt signsB d) = d := by
  have := List.all_eq_true.1 sgn_all d.toNat (List.mem_range.2 (by omega))
  rw [Int.toNat_of_nonneg h0] at this
  simpa using this
theorem signR_spec (c : Int) (H : Hp) : ACall Tryz.prog 98 [.v (.int .u8 c)] H (IsR H (.v (.int .i64 (sgnI c)))) := by
  have hsz : signsB.size = 64 := rfl
  refine UCall (n := 13) (H0 := H) (objs := []) Tryz.func98 (by kernel_rfl) rfl (by rw [Tryz.ntmps98]; rfl) .nil <| ?_
  refine Q.rg <| Q.as rfl <| Q.nt <| S.sq <| Q.rg <| Q.as rfl <| Q.nt <| UW.block <| S.loop (fun i : Nat => [(3, .v (.int .i64 (i : Int))), (0, .v (.int .u8 c))]) (fun _ => []) (fun i => i ≤ 64 ∧ ∀ j, j < i → ¬ bAt signsB (j : Int) = c) (fun i => 64 - i) 0 ⟨Nat.zero_le _, fun j hj => absurd hj (Nat.not_lt_zero _)⟩ ⟨rfl, rfl, trivial⟩ (.refl _) <| ?_
  rintro i ⟨hi, hall⟩
  by_cases hlt : i < 64
  · have hx : ∀ x : ByteArray, x = signsB → bAt x (i : Int) = bAt signsB (i : Int) := fun x h => by rw [h]
    by_cases hb : bAt signsB (i : Int) = c
    · have e := sgn_found hlt hb hall
      refine S.sq <| Q.rg <| Q.mv rfl <| Q.bi rfl rfl rfl <| Q.nt <| S.cT rfl (decide_eq_true (by omega)) <| UW.skip <| UQ.then <| S.sq <| UW.block <| Q.rg <| Q.mv rfl <| S.qu (Z.eq (u' := .v (.int .u8 c)) (Z.is (p := signsB) Tryz.underlying9 rfl rfl (by omega) (by omega)) (by rw [hb])) <| ?_
      refine Q.mv rfl <| Q.bi rfl rfl rfl <| Q.nt <| S.cT rfl (beq_t (by omega)) <| Q.rg <| Q.mv rfl <| Q.as rfl <| Q.nt <| UW.ret <| UQ.blockR <| UQ.passR <| UQ.passR <| UQ.blockR <| UQ.passR <| S.rtR (fun _ => res_tmp rfl rfl) <| ?_
      focus (rw [e]; done)
    · refine S.sq <| Q.rg <| Q.mv rfl <| Q.bi rfl rfl rfl <| Q.nt <| S.cT rfl (decide_eq_true (by omega)) <| UW.skip <| UQ.then <| S.sq <| UW.block <| Q.rg <| Q.mv rfl <| S.qu (Z.is (p := signsB) Tryz.underlying9 rfl rfl (by omega) (by omega)) <| Q.mv rfl <| Q.bi rfl rfl rfl <| Q.nt <| S.cF rfl (beq_f (by omega)) <| UW.skip <| UQ.blockN <| UQ.then <| S.rg <| Q.mv rfl <| S.qu (Z.add (r := ((i + 1 : Nat) : Int)) rfl rfl (IntWalk.i64_in _ (by omega))) <| Q.as rfl <| US.nil <| ?_
      refine S.back (i + 1) ⟨rfl, rfl, trivial⟩ (.refl _) ?_ (by omega)
      exact ⟨hlt, fun j hj => by rcases Nat.lt_succ_iff_lt_or_eq.1 hj with h | h; exact hall j h; rw [h]; exact hb⟩
  · have e := sgn_none (c := c) fun j hj => hall j (by omega)
    refine S.sq <| Q.rg <| Q.mv rfl <| Q.bi rfl rfl rfl <| Q.nt <| S.cF rfl (decide_eq_false (by omega)) <| UW.exit <| UQ.pass <| UQ.pass <| UQ.here <| UQ.then <| Q.rg <| Q.as rfl <| Q.nt <| UW.ret <| S.rtR (fun _ => res_tmp rfl rfl) <| ?_
    focus (rw [e]; done)
def dgt (s : ByteArray) (j : Nat) : Int := if j < s.size then sgnI (bAt s (j : Int)) else 0
def numU (s : ByteArray) (k : Nat) : Nat → Int
  | 0 => 0
  | j + 1 => 64 * numU s k j + dgt s (4 * k + j)
def manyN (s : ByteArray) (k : Nat) : Nat := min (s.size - 4 * k) 4
def bytU (s : ByteArray) (k j : Nat) : Int := IntKind.u8.wrap (numU s k 4 / 2 ^ (16 - 8 * j))
def gB (s : ByteArray) (k m : Nat) : List Int := (List.range m).map (bytU s k)
def backU (s : ByteArray) : Nat → List Int
  | 0 => []
  | k + 1 => backU s k ++ gB s k (manyN s k - 1)
def backL (s : ByteArray) : List Int := backU s ((s.size + 3) / 4)
def okS (s : ByteArray) : Bool := (List.range s.size).all fun j => decide (0 ≤ sgnI (bAt s (j : Int)))
def decR (s : ByteArray) : Option (List Int) := if okS s = true then (if (textB (backL s)).toList == s.toList then some (backL s) else none) else none
theorem gB_len (s : ByteArray) (k m : Nat) : (gB s k m).length = m := by unfold gB; simp
theorem gB_succ (s : ByteArray) (k m : Nat) : gB s k (m + 1) = gB s k m ++ [bytU s k m] := by unfold gB; rw [List.range_succ, List.map_append]; rfl
theorem bytU_ok (s : ByteArray) (k j : Nat) : 0 ≤ bytU s k j ∧ bytU s k j < 256 := wrap8 _
theorem gB_ok (s : ByteArray) (k m : Nat) : ByteL (gB s k m) := by
  intro c hc
  obtain ⟨j, _, rfl⟩ := List.mem_map.1 hc
  exact bytU_ok s k j
theorem back_ok (s : ByteArray) : ∀ k, ByteL (backU s k)
  | 0 => fun c hc => absurd hc List.not_mem_nil
  | k + 1 => fun c hc => by
    rcases List.mem_append.1 hc with h | h
    · exact back_ok s k c h
    · exact gB_ok s k _ c h
theorem back_len (s : ByteArray) : ∀ k, (backU s k).length ≤ 3 * k
  | 0 => Nat.le_refl _
  | k + 1 => by
    have h := back_len s k
    show (backU s k ++ gB s k (manyN s k - 1)).length ≤ _
    rw [List.length_append, gB_len]
    unfold manyN
    omega
theorem dgt_bd (s : ByteArray) (j : Nat) : -1 ≤ dgt s j ∧ dgt s j < 64 := by
  unfold dgt
  split
  · exact sgnI_bd _
  · omega
theorem numU_bd (s : ByteArray) (k j : Nat) (hj : j ≤ 4) (h : ∀ i, i < j → 0 ≤ dgt s (4 * k + i)) : 0 ≤ numU s k j ∧ numU s k j < 16777216 ∧ (j < 4 → numU s k j < 262144) := by
  have key : ∀ j, j ≤ 4 → (∀ i, i < j → 0 ≤ dgt s (4 * k + i)) → 0 ≤ numU s k j ∧ numU s k j < 64 ^ j := by
    intro j
    induction j with
    | zero => intro _ _; exact ⟨Int.le_refl 0, (by decide : (0 : Int) < 64 ^ 0)⟩
    | succ j ih =>
      intro hj h
      have h1 := ih (by omega) fun i hi => h i (by omega)
      have h2 := h j (by omega)
      have h3 := dgt_bd s (4 * k + j)
      have e : numU s k (j + 1) = 64 * numU s k j + dgt s (4 * k + j) := rfl
      rw [e, Int.pow_succ]
      omega
  have hk := key j hj h
  match j, hj with
  | 0, _ => exact ⟨hk.1, Int.lt_trans hk.2 (by decide), fun _ => Int.lt_trans hk.2 (by decide)⟩
  | 1, _ => exact ⟨hk.1, Int.lt_trans hk.2 (by decide), fun _ => Int.lt_trans hk.2 (by decide)⟩
  | 2, _ => exact ⟨hk.1, Int.lt_trans hk.2 (by decide), fun _ => Int.lt_trans hk.2 (by decide)⟩
  | 3, _ => exact ⟨hk.1, Int.lt_trans hk.2 (by decide), fun _ => hk.2⟩
  | 4, _ => exact ⟨hk.1, hk.2, fun h => absurd h (by decide)⟩
theorem okS_of {s : ByteArray} (h : ∀ j, j < s.size → 0 ≤ sgnI (bAt s (j : Int))) : okS s = true := List.all_eq_true.2 fun j hj => decide_eq_true (h j (List.mem_range.1 hj))
theorem okS_no {s : ByteArray} {j : Nat} (hj : j < s.size) (h : sgnI (bAt s (j : Int)) < 0) : okS s = false := by
  cases e : okS s with
  | false => rfl
  | true =>
    have := of_decide_eq_true (List.all_eq_true.1 e j (List.mem_range.2 hj))
    omega
theorem shr16 (a : Int) (i : Nat) (hi : i ≤ 2) : a.fdiv (2 ^ min ((16 : Int) - ((8 * i : Nat) : Int)).toNat IntKind.i64.bits) = a / 2 ^ (16 - 8 * i) := by
  have e : min ((16 : Int) - ((8 * i : Nat) : Int)).toNat IntKind.i64.bits = 16 - 8 * i := by
    have : IntKind.i64.bits = 64 := rfl
    omega
  have hp : (0 : Int) < 2 ^ (16 - 8 * i) := Int.pow_pos (by decide)
  rw [e, Int.fdiv_eq_ediv_of_nonneg _ (by omega)]
def backA : Option (List Int) → AV
  | some l => .tup [.sl (encY l), .v (.bool true)]
  | none => .tup [.v (.slice none 0 0), .v (.bool false)]
theorem decR_no {s : ByteArray} (h : okS s = false) : decR s = none := by unfold decR; rw [if_neg (by rw [h]; decide)]
theorem decR_ok {s : ByteArray} (h : okS s = true) : decR s = if (textB (backL s)).toList == s.toList then some (backL s) else none := by unfold decR; rw [if_pos h]
theorem backR_spec (s : ByteArray) (hs : s.size ≤ 1000000) (H : Hp) : ACall Tryz.prog 60 [.v (.string s)] H (IsR H (backA (decR s))) := by
  refine UCall (n := 62) (H0 := H) (objs := []) Tryz.func60 (by kernel_rfl) rfl (by rw [Tryz.ntmps60]; rfl) .nil <| ?_
  refine Q.rg <| Q.as rfl <| Q.as rfl <| Q.nt <| Q.rg <| Q.as rfl <| US.nilOwn 4 5 1 (by decide) rfl fun id => Q.nt <| S.sq <| Q.rg <| Q.as rfl <| Q.nt <| UW.block <| S.loop (fun x : Nat × Nat => [(5, .v (.int .i64 ((4 * x.1 : Nat) : Int))), (4, .own x.2 0 (backU s x.1).length 1), (0, .v (.string s))]) (fun x => [(x.2, .row 5 1 (encY (backU s x.1)))]) (fun x => x.1 ≤ (s.size + 3) / 4 ∧ ∀ j, j < 4 * x.1 → j < s.size → 0 ≤ sgnI (bAt s (j : Int))) (fun x => s.size - x.1) (0, id) ⟨Nat.zero_le _, fun j hj => absurd hj (Nat.not_lt_zero _)⟩ ⟨rfl, rfl, rfl, trivial⟩ (.refl _) <| ?_
  rintro ⟨k, id⟩ ⟨hk, hok⟩
  dsimp only at hk hok ⊢
  have hbl := back_len s k
  have hel := encY_len (backU s k)
  by_cases hlt : 4 * k < s.size
  · have hm4 : manyN s k ≤ 4 ∧ 1 ≤ manyN s k ∧ (∀ j, j < manyN s k ↔ 4 * k + j < s.size ∧ j < 4) := by unfold manyN; refine ⟨by omega, by omega, fun j => by omega⟩
    have hbs : backU s (k + 1) = backU s k ++ gB s k (manyN s k - 1) := rfl
    have hmn : manyN s k = min (s.size - 4 * k) 4 := rfl
    generalize manyN s k = many at *
    refine S.sq <| Q.rg <| Q.mv rfl <| Q.mv rfl <| S.qu (Z.lnt Tryz.underlying9 rfl) <| Q.bi rfl rfl rfl <| Q.nt <| S.cT rfl (decide_eq_true (by omega)) <| UW.skip <| UQ.then <| S.sq <| UW.block <| Q.rg <| Q.mv rfl <| S.qu (Z.lnt Tryz.underlying9 rfl) <| Q.mv rfl <| S.qu (Z.sub rfl rfl (IntWalk.i64_in _ (by omega))) <| ?_
    refine S.qu (Z.eq (u' := .v (.int .i64 ((many : Nat) : Int))) (Z.min rfl rfl) (by congr 2; split <;> omega)) ?_
    refine Q.as rfl <| Q.nt <| Q.rg <| Q.as rfl <| Q.nt <| S.sq <| Q.rg <| Q.as rfl <| Q.nt <| UW.block <| S.loop (fun j : Nat => [(8, .v (.int .i64 (j : Int))), (7, .v (.int .i64 (numU s k j))), (6, .v (.int .i64 (many : Int))), (5, .v (.int .i64 ((4 * k : Nat) : Int))), (4, .own id 0 (backU s k).length 1), (0, .v (.string s))]) (fun _ => [(id, .row 5 1 (encY (backU s k)))]) (fun j => j ≤ 4 ∧ ∀ i, i < j → 0 ≤ dgt s (4 * k + i)) (fun j => 4 - j) 0 ⟨Nat.zero_le _, fun j hj => absurd hj (Nat.not_lt_zero _)⟩ ⟨rfl, rfl, rfl, rfl, rfl, rfl, trivial⟩ (.refl _) <| ?_
    rintro j ⟨hj, hd⟩
    have hnb := numU_bd s k j hj hd
    have hnx : numU s k (j + 1) = 64 * numU s k j + dgt s (4 * k + j) := rfl
    have hdb := dgt_bd s (4 * k + j)
    by_cases hj4 : j < 4
    · have hnb4 := hnb.2.2 hj4
      by_cases hjm : j < many
      · have hin := ((hm4.2.2 j).1 hjm).1
        have hdg : dgt s (4 * k + j) = sgnI (bAt s ((4 * k + j : Nat) : Int)) := by unfold dgt; rw [if_pos hin]
        by_cases hneg : sgnI (bAt s ((4 * k + j : Nat) : Int)) < 0
        · have hdec : decR s = none := decR_no (okS_no hin hneg)
          refine S.sq <| Q.rg <| Q.mv rfl <| Q.bi rfl rfl rfl <| Q.nt <| S.cT rfl (decide_eq_true (by omega)) <| UW.skip <| UQ.then <| S.sq <| UW.block <| Q.rg <| Q.as rfl <| Q.nt <| S.sq <| Q.rg <| Q.mv rfl <| Q.mv rfl <| Q.bi rfl rfl rfl <| Q.nt <| S.cT rfl (decide_eq_true (by omega)) <| S.rg <| Q.mv rfl <| Q.mv rfl <| Q.mv rfl <| S.qu (Z.add (r := ((4 * k + j : Nat) : Int)) rfl rfl (IntWalk.i64_in _ (by omega))) <| S.dd <| D.ib Tryz.underlying9 rfl rfl (by omega) (by omega) fun h33 => S.qu (Z.call rfl rfl (fun H => signR_spec _ H)) <| Q.as rfl <| Q.nt <| S.sq <| Q.rg <| Q.mv rfl <| Q.bi rfl rfl rfl <| Q.nt <| S.cT rfl (decide_eq_true (by omega)) <| Q.rg <| Q.as rfl <| Q.as rfl <| Q.nt <| UW.ret <| UQ.passR <| UQ.blockR <| UQ.passR <| UQ.passR <| UQ.blockR <| UQ.passR <| UQ.blockR <| UQ.passR <| UQ.passR <| UQ.blockR <| UQ.passR <| S.rtR (fun hd => res_two rfl (res1_tmp rfl) (res1_tmp rfl)) <| ?_
          focus ((rw [hdec]; rfl); done)
        · have hdn : ∀ i, i < j + 1 → 0 ≤ dgt s (4 * k + i) := fun i hi => by
            rcases Nat.lt_succ_iff_lt_or_eq.1 hi with h | h
            · exact hd i h
            · rw [h, hdg]; omega
          have hsg : ∀ H, ACall Tryz.prog 98 [.v (.int .u8 (bAt s ((4 * k + j : Nat) : Int)))] H (IsR H (.v (.int .i64 (dgt s (4 * k + j))))) := fun H => hdg ▸ signR_spec _ H
          rw [← hdg] at hneg
          clear hdg
          refine S.sq <| Q.rg <| Q.mv rfl <| Q.bi rfl rfl rfl <| Q.nt <| S.cT rfl (decide_eq_true (by omega)) <| UW.skip <| UQ.then <| S.sq <| UW.block <| Q.rg <| Q.as rfl <| Q.nt <| S.sq <| Q.rg <| Q.mv rfl <| Q.mv rfl <| Q.bi rfl rfl rfl <| Q.nt <| S.cT rfl (decide_eq_true (by omega)) <| S.rg <| Q.mv rfl <| Q.mv rfl <| Q.mv rfl <| S.qu (Z.add (r := ((4 * k + j : Nat) : Int)) rfl rfl (IntWalk.i64_in _ (by omega))) <| S.dd <| D.ib Tryz.underlying9 rfl rfl (by omega) (by omega) fun h33 => S.qu (Z.call rfl rfl (fun H => hsg H)) <| Q.as rfl <| Q.nt <| S.sq <| Q.rg <| Q.mv rfl <| Q.bi rfl rfl rfl <| Q.nt <| S.cF rfl (decide_eq_false (by omega)) <| UW.skip <| UQ.then <| S.rg <| Q.mv rfl <| S.qu (Z.mul (r := 64 * numU s k j) rfl rfl (IntWalk.i64_in _ (by omega))) <| Q.mv rfl <| S.qu (Z.add (r := numU s k (j + 1)) rfl rfl (by rw [IntWalk.i64_in _ (by omega)]; omega)) <| ?_
          refine Q.as rfl <| US.nil <| UQ.blockN <| UQ.then <| S.rg <| Q.mv rfl <| S.qu (Z.add (r := ((j + 1 : Nat) : Int)) rfl rfl (IntWalk.i64_in _ (by omega))) <| Q.as rfl <| US.nil <| ?_
          refine S.back (j + 1) ⟨rfl, rfl, rfl, rfl, rfl, rfl, trivial⟩ (.refl _) ?_ (by omega)
          exact ⟨hj4, hdn⟩
      · have hdz : dgt s (4 * k + j) = 0 := by unfold dgt; rw [if_neg (fun h => hjm ((hm4.2.2 j).2 ⟨h, hj4⟩))]
        have hdn : ∀ i, i < j + 1 → 0 ≤ dgt s (4 * k + i) := fun i hi => by
          rcases Nat.lt_succ_iff_lt_or_eq.1 hi with h | h
          · exact hd i h
          · rw [h, hdz]; exact Int.le_refl 0
        refine S.sq <| Q.rg <| Q.mv rfl <| Q.bi rfl rfl rfl <| Q.nt <| S.cT rfl (decide_eq_true (by omega)) <| UW.skip <| UQ.then <| S.sq <| UW.block <| Q.rg <| Q.as rfl <| Q.nt <| S.sq <| Q.rg <| Q.mv rfl <| Q.mv rfl <| Q.bi rfl rfl rfl <| Q.nt <| S.cF rfl (decide_eq_false (by omega)) <| UW.skip <| UQ.then <| S.sq <| Q.rg <| Q.mv rfl <| Q.bi rfl rfl rfl <| Q.nt <| S.cF rfl (decide_eq_false (by omega)) <| UW.skip <| UQ.then <| S.rg <| Q.mv rfl <| S.qu (Z.mul (r := 64 * numU s k j) rfl rfl (IntWalk.i64_in _ (by omega))) <| Q.mv rfl <| S.qu (Z.add (r := numU s k (j + 1)) rfl rfl (by rw [IntWalk.i64_in _ (by omega)]; omega)) <| ?_
        refine Q.as rfl <| US.nil <| UQ.blockN <| UQ.then <| S.rg <| Q.mv rfl <| S.qu (Z.add (r := ((j + 1 : Nat) : Int)) rfl rfl (IntWalk.i64_in _ (by omega))) <| Q.as rfl <| US.nil <| ?_
        refine S.back (j + 1) ⟨rfl, rfl, rfl, rfl, rfl, rfl, trivial⟩ (.refl _) ?_ (by omega)
        exact ⟨hj4, hdn⟩
    · have hj0 : j = 4 := by omega
      subst hj0
      have hok4 : ∀ i, i < 4 * (k + 1) → i < s.size → 0 ≤ sgnI (bAt s (i : Int)) := fun i hi his => by
        by_cases h : i < 4 * k
        · exact hok i h his
        · have := hd (i - 4 * k) (by omega)
          unfold dgt at this
          rwa [show 4 * k + (i - 4 * k) = i by omega, if_pos his] at this
      obtain ⟨U, hU0, hUs, hUl, hUe⟩ : ∃ U : Nat → List Int, U 0 = backU s k ∧ (∀ m, U (m + 1) = U m ++ [bytU s k m]) ∧ (∀ m, (U m).length = (backU s k).length + m) ∧ U (many - 1) = backU s (k + 1) := ⟨fun m => backU s k ++ gB s k m, List.append_nil _, fun m => by dsimp only; rw [gB_succ, List.append_assoc], fun m => by dsimp only; rw [List.length_append, gB_len], hbs.symm⟩
      refine S.sq <| Q.rg <| Q.mv rfl <| Q.bi rfl rfl rfl <| Q.nt <| S.cF rfl (decide_eq_false (by omega)) <| UW.exit <| UQ.pass <| UQ.pass <| UQ.here <| UQ.then <| Q.rg <| Q.as rfl <| Q.nt <| UW.block <| S.loop (fun x : Nat × Nat => [(10, .v (.int .i64 (x.1 : Int))), (7, .v (.int .i64 (numU s k 4))), (6, .v (.int .i64 (many : Int))), (5, .v (.int .i64 ((4 * k : Nat) : Int))), (4, .own x.2 0 (U x.1).length 1), (0, .v (.string s))]) (fun x => [(x.2, .row 5 1 (encY (U x.1)))]) (fun x => x.1 ≤ many - 1) (fun x => many - x.1) (0, id) (Nat.zero_le _) ⟨rfl, rfl, rfl, rfl, congrArg (fun z : List Int => some (AV.own id 0 z.length 1)) hU0.symm, rfl, trivial⟩ (by show List.Sublist [(id, Ob.row _ _ (encY (U 0)))] _; rw [hU0]; exact .refl _) <| ?_
      rintro ⟨m, id2⟩ hm
      dsimp only at hm ⊢
      have hus := hUs m
      have hul := hUl m
      have hul1 := hUl (m + 1)
      have hpe := encY_len (U m)
      by_cases hmm : m < many - 1
      · have hbt : IntKind.u8.wrap (numU s k 4 / 2 ^ (16 - 8 * m)) = bytU s k m := rfl
        have hs2 := encY_snoc (U m) (bytU s k m)
        rw [← hus] at hs2
        have hl2 : (U (m + 1)).length = (U m).length + 1 := by omega
        have hsh := shr16 (numU s k 4) m (by omega)
        generalize bytU s k m = bt at *
        have ha : (encY (U m)).take (U m).length ++ [[.v (.int .u8 bt)]] = encY (U (m + 1)) := by rw [List.take_of_length_le (by omega), hs2]
        refine S.sq <| Q.rg <| Q.mv rfl <| Q.mv rfl <| S.qu (Z.sub (r := ((many - 1 : Nat) : Int)) rfl rfl (by rw [IntWalk.i64_in _ (by omega)]; omega)) <| ?_
        refine Q.bi rfl rfl rfl <| Q.nt <| S.cT rfl (decide_eq_true (by omega)) <| UW.skip <| UQ.then <| S.sq <| UW.block <| S.rg <| Q.mv rfl <| Q.mv rfl <| Q.mv rfl <| S.qu (Z.mul (r := ((8 * m : Nat) : Int)) rfl rfl (IntWalk.i64_in _ (by omega))) <| S.qu (Z.sub rfl rfl (IntWalk.i64_in _ (by omega))) <| S.qu (Z.cv (r := (16 : Int) - ((8 * m : Nat) : Int)) Tryz.underlying86 rfl (IntWalk.u64_in _ (by omega)) (by rw [Tryz.underlying3]; rfl)) <| ?_
        refine S.qu (Z.shr (r := numU s k 4 / 2 ^ (16 - 8 * m)) rfl rfl (by omega) hsh) <| S.qu (Z.cv (r := bt) Tryz.underlying5 rfl hbt (by kernel_rfl)) <| S.qu (Z.bl row22 rfl rfl (lit_ok rfl)) <| S.dd <| D.apl 0 (U (m + 1)).length row22 rfl rfl (by omega) rfl (.sl (lit_sz rfl)) (by first | omega | (simp; omega)) ha hl2.symm fun p56 => ?_
        refine Q.as rfl <| US.nil <| UQ.blockN <| UQ.then <| S.rg <| Q.mv rfl <| S.qu (Z.add (r := ((m + 1 : Nat) : Int)) rfl rfl (IntWalk.i64_in _ (by omega))) <| Q.as rfl <| US.nil <| ?_
        refine S.back (m + 1, p56) ⟨rfl, rfl, rfl, rfl, rfl, rfl, trivial⟩ (.refl _) (by omega) (by omega)
      · have hme : m = many - 1 := by omega
        rw [hme, hUe]
        have hbl2 := back_len s (k + 1)
        refine S.sq <| Q.rg <| Q.mv rfl <| Q.mv rfl <| S.qu (Z.sub (r := ((many - 1 : Nat) : Int)) rfl rfl (by rw [IntWalk.i64_in _ (by omega)]; omega)) <| ?_
        refine Q.bi rfl rfl rfl <| Q.nt <| S.cF rfl (decide_eq_false (by omega)) <| UW.exit <| UQ.pass <| UQ.pass <| UQ.here <| UQ.blockN <| UQ.then <| S.rg <| Q.mv rfl <| S.qu (Z.add (r := ((4 * (k + 1) : Nat) : Int)) rfl rfl (by rw [IntWalk.i64_in _ (by omega)]; omega)) <| ?_
        refine Q.as rfl <| US.nil <| ?_
        refine S.back (k + 1, id2) ⟨rfl, rfl, rfl, trivial⟩ (.refl _) ?_ (by omega)
        exact ⟨by omega, hok4⟩
  · have hk0 : k = (s.size + 3) / 4 := by omega
    have hoks : okS s = true := okS_of fun j hj => hok j (by omega) hj
    have hbk : backU s k = backL s := by rw [hk0]; rfl
    have hobl : ByteL (backL s) := hbk ▸ back_ok s k
    have hdec := decR_ok hoks
    rw [hbk] at hbl hel ⊢
    clear hbk
    generalize backL s = out at *
    by_cases he : (textB out).toList = s.toList
    · rw [he, beq_self_eq_true, if_pos rfl] at hdec
      rw [hdec]
      refine S.sq <| Q.rg <| Q.mv rfl <| Q.mv rfl <| S.qu (Z.lnt Tryz.underlying9 rfl) <| Q.bi rfl rfl rfl <| Q.nt <| S.cF rfl (decide_eq_false (by omega)) <| UW.exit <| UQ.pass <| UQ.pass <| UQ.here <| UQ.then <| S.sq <| Q.rg <| Q.mv rfl <| S.qu (Z.cbw [] (List.nil_sublist _) rfl rfl rfl (.own (k := 0) rfl (by omega) (drop_take_all _ _ hel) .nil) (fun hd => sealTR_spec out (by omega) hobl _)) <| Q.mv rfl <| S.qu (Z.eq (u' := .v (.bool false)) (Z.bs rfl rfl rfl) (by rw [he]; simp)) <| ?_
      refine Q.nt <| S.cF rfl rfl <| UW.skip <| UQ.then <| Q.rg <| Q.mv rfl <| US.freeze' 61 0 (rs := encY out) rfl rfl (by omega) (by rw [List.drop_zero]; exact List.take_of_length_le (by omega)) <| ?_
      refine Q.as rfl <| Q.as rfl <| Q.nt <| UW.ret <| S.rtR (fun hd => res_two rfl (res1_tmp rfl) (res1_tmp rfl)) <| ?_
      rfl
    · rw [beq_f he, if_neg (by decide)] at hdec
      rw [hdec]
      refine S.sq <| Q.rg <| Q.mv rfl <| Q.mv rfl <| S.qu (Z.lnt Tryz.underlying9 rfl) <| Q.bi rfl rfl rfl <| Q.nt <| S.cF rfl (decide_eq_false (by omega)) <| UW.exit <| UQ.pass <| UQ.pass <| UQ.here <| UQ.then <| S.sq <| Q.rg <| Q.mv rfl <| S.qu (Z.cbw [] (List.nil_sublist _) rfl rfl rfl (.own (k := 0) rfl (by omega) (drop_take_all _ _ hel) .nil) (fun hd => sealTR_spec out (by omega) hobl _)) <| Q.mv rfl <| S.qu (Z.eq (u' := .v (.bool true)) (Z.bs rfl rfl rfl) (by simp [he])) <| ?_
      refine Q.nt <| S.cT rfl rfl <| Q.rg <| Q.as rfl <| Q.as rfl <| Q.nt <| UW.ret <| UQ.passR <| S.rtR (fun hd => res_two rfl (res1_tmp rfl) (res1_tmp rfl)) <| ?_
      rfl
def namedV (s : ByteArray) : Bool := (decide (s.size ≠ 0) && bAt s ((0 : Nat) : Int) == 36) && (match decR (s.extract 1 s.size) with | some l => decide (l.length = 32) | none => false)
theorem namedR_spec (s : ByteArray) (hs : s.size ≤ 1000000) (H : Hp) : ACall Tryz.prog 29 [.v (.string s)] H (IsR H (.v (.bool (namedV s)))) := by
  have hxs : (s.extract 1 s.size).size = s.size - 1 := by simp
  have hb := fun H => backR_spec (s.extract 1 s.size) (by omega) H
  by_cases he : s.toList = (⟨#[]⟩ : ByteArray).toList
  · have he2 := bytes_ext he
    have hn : namedV s = false := by rw [he2]; rfl
    rw [hn]
    refine UCall (n := 24) (H0 := H) (objs := []) Tryz.func29 (by kernel_rfl) rfl (by rw [Tryz.ntmps29]; rfl) .nil <| ?_
    refine Q.rg <| Q.as rfl <| Q.nt <| S.sq <| Q.rg <| Q.mv rfl <| S.qu (Z.eq (u' := .v (.bool true)) (Z.bs rfl rfl rfl) (by rw [he]; simp)) <| ?_
    refine Q.mv rfl <| Q.of <| Q.of <| Q.of <| Q.pk rfl rfl <| Q.nt <| S.cT rfl rfl <| Q.rg <| Q.as rfl <| Q.nt <| UW.ret <| UQ.passR <| S.rtR (fun _ => res_tmp rfl rfl) <| ?_
    rfl
  · have h0 : 0 < s.size := by
      rcases Nat.eq_zero_or_pos s.size with h | h
      · exact absurd (by rw [ByteArray.size_eq_zero_iff.1 h]; rfl) he
      · exact h
    have hne : (s.toList == (⟨#[]⟩ : ByteArray).toList) = false := beq_f he
    by_cases h1 : bAt s ((0 : Nat) : Int) = 36
    · have hn : namedV s = (match decR (s.extract 1 s.size) with | some l => decide (l.length = 32) | none => false) := by
        unfold namedV; rw [decide_eq_true (by omega : s.size ≠ 0), h1]; rfl
      rw [hn]
      generalize decR (s.extract 1 s.size) = r at *
      cases r with
      | none =>
        refine UCall (n := 24) (H0 := H) (objs := []) Tryz.func29 (by kernel_rfl) rfl (by rw [Tryz.ntmps29]; rfl) .nil <| ?_
        refine Q.rg <| Q.as rfl <| Q.nt <| S.sq <| Q.rg <| Q.mv rfl <| S.qu (Z.eq (u' := .v (.bool false)) (Z.bs rfl rfl rfl) (by rw [hne])) <| ?_
        refine Q.mv rfl <| Q.on (Z.mv rfl) <| Q.on (Z.eq (u' := .v (.int .u8 36)) (Z.is (p := s) Tryz.underlying9 rfl rfl (by omega) (by omega)) (by rw [← h1]; rfl)) <| ?_
        refine Q.on (Z.bi rfl rfl rfl) <| Q.pk rfl rfl <| Q.nt <| S.cF rfl (bne_f (by omega)) <| UW.skip <| UQ.then <| Q.rg <| Q.mv rfl <| S.qu (Z.eq (u' := .v (.string (s.extract 1 s.size))) (Z.slt (p := s) Tryz.underlying9 rfl (.lo (a := 1) rfl) (by omega) (by omega)) rfl) <| S.qu (Z.call rfl rfl (fun H => hb H)) <| Q.mv rfl <| S.qu (Z.ex rfl rfl) <| S.qu (Z.ex rfl rfl) <| Q.as rfl <| Q.as rfl <| Q.nt <| Q.rg <| Q.mv rfl <| Q.mv rfl <| Q.of <| Q.of <| Q.of <| Q.pk rfl rfl <| Q.as rfl <| Q.nt <| UW.ret <| S.rtR (fun _ => res_tmp rfl rfl) <| ?_
        rfl
      | some l =>
        have hel := encY_len l
        have hq : (((encY l).length : Int) == 32) = decide (l.length = 32) := by rw [hel, Bool.eq_iff_iff]; simp; omega
        refine UCall (n := 24) (H0 := H) (objs := []) Tryz.func29 (by kernel_rfl) rfl (by rw [Tryz.ntmps29]; rfl) .nil <| ?_
        refine Q.rg <| Q.as rfl <| Q.nt <| S.sq <| Q.rg <| Q.mv rfl <| S.qu (Z.eq (u' := .v (.bool false)) (Z.bs rfl rfl rfl) (by rw [hne])) <| ?_
        refine Q.mv rfl <| Q.on (Z.mv rfl) <| Q.on (Z.eq (u' := .v (.int .u8 36)) (Z.is (p := s) Tryz.underlying9 rfl rfl (by omega) (by omega)) (by rw [← h1]; rfl)) <| ?_
        refine Q.on (Z.bi rfl rfl rfl) <| Q.pk rfl rfl <| Q.nt <| S.cF rfl (bne_f (by omega)) <| UW.skip <| UQ.then <| Q.rg <| Q.mv rfl <| S.qu (Z.eq (u' := .v (.string (s.extract 1 s.size))) (Z.slt (p := s) Tryz.underlying9 rfl (.lo (a := 1) rfl) (by omega) (by omega)) rfl) <| S.qu (Z.call rfl rfl (fun H => hb H)) <| Q.mv rfl <| S.qu (Z.ex rfl rfl) <| S.qu (Z.ex rfl rfl) <| Q.as rfl <| Q.as rfl <| Q.nt <| Q.rg <| Q.mv rfl <| Q.mv rfl <| Q.on (Z.mv rfl) <| Q.on (Z.lns sl22 rfl) <| Q.on (Z.bi rfl rfl rfl) <| Q.pk rfl rfl <| Q.as rfl <| Q.nt <| UW.ret <| S.rtR (fun _ => res_tmp rfl rfl) <| ?_
        focus (exact congrArg (fun b => AV.v (.bool b)) hq; done)
    · have hn : namedV s = false := by
        unfold namedV
        have : (bAt s ((0 : Nat) : Int) == 36) = false := by simpa using h1
        rw [this]; simp
      rw [hn]
      refine UCall (n := 24) (H0 := H) (objs := []) Tryz.func29 (by kernel_rfl) rfl (by rw [Tryz.ntmps29]; rfl) .nil <| ?_
      refine Q.rg <| Q.as rfl <| Q.nt <| S.sq <| Q.rg <| Q.mv rfl <| S.qu (Z.eq (u' := .v (.bool false)) (Z.bs rfl rfl rfl) (by rw [hne])) <| ?_
      refine Q.mv rfl <| Q.on (Z.mv rfl) <| S.dd <| D.on <| D.ib Tryz.underlying9 rfl rfl (by omega) (by omega) fun h9 => Q.on (Z.bi rfl rfl rfl) <| Q.pk rfl rfl <| Q.nt <| S.cT rfl (bne_t (by omega)) <| Q.rg <| Q.as rfl <| Q.nt <| UW.ret <| UQ.passR <| S.rtR (fun _ => res_tmp rfl rfl) <| ?_
      rfl
end Go.Proofs.YtgmfgmbgmjbdhaaGreatDoor
