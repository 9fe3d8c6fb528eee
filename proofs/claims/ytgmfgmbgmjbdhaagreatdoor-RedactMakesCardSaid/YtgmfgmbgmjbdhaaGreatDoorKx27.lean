/- Words of 32 bits: the digest's steps. · The digest's keys, a block's words by the document's answer. -/
import Derived.Test.YtgmfgmbgmjbdhaaGreatDoorKx13
import Derived.Test.YtgmfgmbgmjbdhaaGreatDoorKx26
section
namespace Go.Proofs.YtgmfgmbgmjbdhaaGreatDoor
open Go Go.RowKit Go.Eng
set_option linter.unusedSimpArgs false
set_option linter.unusedVariables false
set_option maxRecDepth 100000
set_option maxHeartbeats 4000000
theorem ar121 : arT Tryz.prog 121 = some (8, 119, 1) := by kernel_rfl
theorem ar151 : arT Tryz.prog 151 = some (64, 119, 1) := by kernel_rfl
def rotW (x n : Int) : Int := orW (shrW x n) (shlW x (32 - n))
theorem orW_comm (a b : Int) : orW a b = orW b a := by unfold orW; rw [BitVec.or_comm]
theorem rot_amt : ∀ n : Fin 32, 0 < n.val → IntKind.u64.wrap (BitVec.ofInt IntKind.u64.bits (IntKind.u64.wrap (IntKind.i64.wrap (0 - (n.val : Int)))) &&& BitVec.ofInt IntKind.u64.bits 31).toNat = 32 - (n.val : Int) := by decide
theorem rotl_spec (x n : Int) (h0 : 0 < n) (h1 : n < 32) (H : Hp) : ACall Tryz.prog 166 [.v (.int .u32 x), .v (.int .i64 (IntKind.i64.wrap (0 - n)))] H (IsR H (.v (.int .u32 (rotW x n)))) := by
  have hr := rot_amt ⟨n.toNat, by omega⟩ (by show 0 < n.toNat; omega)
  rw [show (((⟨n.toNat, by omega⟩ : Fin 32).val : Nat) : Int) = n from Int.toNat_of_nonneg (by omega)] at hr
  refine UCall (n := 17) (H0 := H) (objs := []) Tryz.func166 (by kernel_rfl) rfl (by rw [Tryz.ntmps166]; rfl) .nil <| ?_
  refine Q.rg <| Q.as rfl <| Q.nt <| Q.rg <| Q.mv rfl <| S.qu (Z.cv Tryz.underlying86 rfl rfl (by rw [Tryz.underlying3]; rfl)) <| ?_
  refine S.qu (Z.eq (u' := .v (.int .u64 (32 - n))) (Z.bi rfl rfl rfl) (by rw [hr])) <| ?_
  refine Q.as rfl <| Q.nt <| Q.rg <| Q.mv rfl <| Q.mv rfl <| S.qu (Z.wshl rfl rfl (by omega)) <| Q.mv rfl <| Q.mv rfl <| S.qu (Z.sub (r := n) rfl rfl (by rw [show (32 : Int) - (32 - n) = n from by omega]; exact IntWalk.u64_in _ (by omega))) <| ?_
  refine S.qu (Z.wshr rfl rfl (by omega)) <| S.qu (Z.wor rfl rfl) <| Q.as rfl <| Q.nt <| UW.ret <| S.rtR (fun _ => res_tmp rfl rfl) <| ?_
  focus (rw [orW_comm]; rfl; done)
theorem right_spec (x n : Int) (h0 : 0 < n) (h1 : n < 32) (H : Hp) : ACall Tryz.prog 160 [.v (.int .u32 x), .v (.int .i64 n)] H (IsR H (.v (.int .u32 (rotW x n)))) := by
  refine UCall (n := 9) (H0 := H) (objs := []) Tryz.func160 (by kernel_rfl) rfl (by rw [Tryz.ntmps160]; rfl) .nil <| ?_
  refine Q.rg <| Q.as rfl <| Q.nt <| Q.rg <| Q.mv rfl <| Q.mv rfl <| S.qu (Z.neg rfl rfl) <| S.qu (Z.call rfl rfl (fun H => rotl_spec x n h0 h1 H)) <| Q.as rfl <| Q.nt <| UW.ret <| S.rtR (fun _ => res_tmp rfl rfl) <| ?_
  rfl
def smallW (x a b c : Int) : Int := xorW (xorW (rotW x a) (rotW x b)) (shrW x c)
def greatW (x a b c : Int) : Int := xorW (xorW (rotW x a) (rotW x b)) (rotW x c)
theorem small_spec (x a b c : Int) (ha : 0 < a ∧ a < 32) (hb : 0 < b ∧ b < 32) (hc : 0 ≤ c) (H : Hp) : ACall Tryz.prog 159 [.v (.int .u32 x), .v (.int .i64 a), .v (.int .i64 b), .v (.int .u64 c)] H (IsR H (.v (.int .u32 (smallW x a b c)))) := by
  refine UCall (n := 20) (H0 := H) (objs := []) Tryz.func159 (by kernel_rfl) rfl (by rw [Tryz.ntmps159]; rfl) .nil <| ?_
  refine Q.rg <| Q.as rfl <| Q.nt <| Q.rg <| Q.mv rfl <| Q.mv rfl <| S.qu (Z.call rfl rfl (fun _ => right_spec _ _ (by omega) (by omega) _)) <| Q.mv rfl <| Q.mv rfl <| S.qu (Z.call rfl rfl (fun _ => right_spec _ _ (by omega) (by omega) _)) <| S.qu (Z.wxor rfl rfl) <| Q.mv rfl <| Q.mv rfl <| S.qu (Z.wshr rfl rfl (by omega)) <| S.qu (Z.wxor rfl rfl) <| Q.as rfl <| Q.nt <| UW.ret <| S.rtR (fun _ => res_tmp rfl rfl) <| ?_
  rfl
theorem great_spec (x a b c : Int) (ha : 0 < a ∧ a < 32) (hb : 0 < b ∧ b < 32) (hc : 0 < c ∧ c < 32) (H : Hp) : ACall Tryz.prog 143 [.v (.int .u32 x), .v (.int .i64 a), .v (.int .i64 b), .v (.int .i64 c)] H (IsR H (.v (.int .u32 (greatW x a b c)))) := by
  refine UCall (n := 20) (H0 := H) (objs := []) Tryz.func143 (by kernel_rfl) rfl (by rw [Tryz.ntmps143]; rfl) .nil <| ?_
  refine Q.rg <| Q.as rfl <| Q.nt <| Q.rg <| Q.mv rfl <| Q.mv rfl <| S.qu (Z.call rfl rfl (fun _ => right_spec _ _ (by omega) (by omega) _)) <| Q.mv rfl <| Q.mv rfl <| S.qu (Z.call rfl rfl (fun _ => right_spec _ _ (by omega) (by omega) _)) <| S.qu (Z.wxor rfl rfl) <| Q.mv rfl <| Q.mv rfl <| S.qu (Z.call rfl rfl (fun _ => right_spec _ _ (by omega) (by omega) _)) <| S.qu (Z.wxor rfl rfl) <| Q.as rfl <| Q.nt <| UW.ret <| S.rtR (fun _ => res_tmp rfl rfl) <| ?_
  rfl
theorem turn_spec (x n : Int) (h0 : 0 ≤ n) (h1 : n ≤ 32) (H : Hp) : ACall Tryz.prog 148 [.v (.int .u32 x), .v (.int .u64 n)] H (IsR H (.v (.int .u32 (rotW x n)))) := by
  refine UCall (n := 13) (H0 := H) (objs := []) Tryz.func148 (by kernel_rfl) rfl (by rw [Tryz.ntmps148]; rfl) .nil <| ?_
  refine Q.rg <| Q.as rfl <| Q.nt <| Q.rg <| Q.mv rfl <| Q.mv rfl <| S.qu (Z.wshr rfl rfl (by omega)) <| Q.mv rfl <| Q.mv rfl <| S.qu (Z.sub rfl rfl (IntWalk.u64_in _ (by omega))) <| S.qu (Z.wshl rfl rfl (by omega)) <| S.qu (Z.wor rfl rfl) <| Q.as rfl <| Q.nt <| UW.ret <| S.rtR (fun _ => res_tmp rfl rfl) <| ?_
  rfl
def encY (b : List Int) : List (List AV) := b.map fun c => [.v (.int .u8 c)]
def encW (w : List Int) : List AV := w.map fun c => .v (.int .u32 c)
theorem encY_len (b : List Int) : (encY b).length = b.length := List.length_map ..
theorem encY_sz (b : List Int) : ∀ cs ∈ encY b, cs.length = 1 := by
  intro cs h
  obtain ⟨c, _, rfl⟩ := List.mem_map.1 h
  rfl
theorem encY_get (b : List Int) (j : Nat) (h : j < b.length) : (encY b)[j]? = some [.v (.int .u8 (b.getD j 0))] := by
  unfold encY
  rw [List.getElem?_map, List.getElem?_eq_getElem h, List.getD_eq_getElem?_getD, List.getElem?_eq_getElem h]; rfl
theorem encW_len (b : List Int) : (encW b).length = b.length := List.length_map ..
theorem encW_get (b : List Int) (j : Nat) (h : j < b.length) : (encW b)[j]? = some (.v (.int .u32 (b.getD j 0))) := by
  unfold encW
  rw [List.getElem?_map, List.getElem?_eq_getElem h, List.getD_eq_getElem?_getD, List.getElem?_eq_getElem h]; rfl
theorem encW_set (b : List Int) (j : Nat) (x : Int) : (encW b).set j (.v (.int .u32 x)) = encW (b.set j x) := by unfold encW; rw [List.map_set]
theorem encW_cell (b : List Int) : (encW b).all cellAV = true := by
  rw [List.all_eq_true]
  intro x hx
  obtain ⟨c, _, rfl⟩ := List.mem_map.1 hx
  rfl
def ByteL (b : List Int) : Prop := ∀ c ∈ b, 0 ≤ c ∧ c < 256
theorem ByteL.at {b : List Int} (h : ByteL b) (j : Nat) : 0 ≤ b.getD j 0 ∧ b.getD j 0 < 256 := by
  by_cases hj : j < b.length
  · rw [List.getD_eq_getElem?_getD, List.getElem?_eq_getElem hj]
    exact h _ (List.getElem_mem hj)
  · rw [List.getD_eq_getElem?_getD, List.getElem?_eq_none (by omega)]
    decide
def wordAcc (b : List Int) (t : Nat) : Nat → Int
  | 0 => 0
  | k + 1 => orW (shlW (wordAcc b t k) 8) (b.getD (4 * t + k) 0)
def wordNew (w : List Int) (t : Nat) : Int := addW (addW (addW (smallW (w.getD (t - 2) 0) 17 19 10) (w.getD (t - 7) 0)) (smallW (w.getD (t - 15) 0) 7 18 3)) (w.getD (t - 16) 0)
def wordsU (b : List Int) : Nat → List Int
  | 0 => []
  | t + 1 => wordsU b t ++ [if t < 16 then wordAcc b t 4 else wordNew (wordsU b t) t]
theorem wordsU_len (b : List Int) : ∀ t, (wordsU b t).length = t
  | 0 => rfl
  | t + 1 => by rw [wordsU, List.length_append, wordsU_len b t]; rfl
/-- The array, filled up to t. -/
def fillW (w : List Int) (n : Nat) : List Int := w ++ List.replicate (n - w.length) 0
theorem fillW_len (w : List Int) (n : Nat) (h : w.length ≤ n) : (fillW w n).length = n := by unfold fillW; rw [List.length_append, List.length_replicate]; omega
theorem fillW_lo (w : List Int) (n j : Nat) (h : j < w.length) : (fillW w n).getD j 0 = w.getD j 0 := by
  unfold fillW
  rw [List.getD_eq_getElem?_getD, List.getD_eq_getElem?_getD, List.getElem?_append_left h]
theorem fillW_set (w : List Int) (n : Nat) (x : Int) (h : w.length < n) : (fillW w n).set w.length x = fillW (w ++ [x]) n := by
  unfold fillW
  rw [List.set_append_right _ _ (Nat.le_refl _), Nat.sub_self, List.length_append]
  rw [show n - w.length = (n - (w.length + 1)) + 1 from by omega, List.replicate_succ, List.set_cons_zero, List.append_assoc]
  rfl
theorem fillW_set2 (w : List Int) (n : Nat) (x y : Int) (h : w.length < n) : (fillW (w ++ [y]) n).set w.length x = fillW (w ++ [x]) n := by
  unfold fillW
  rw [List.append_assoc, List.set_append_right _ _ (Nat.le_refl _), Nat.sub_self, List.length_append, List.length_append, List.append_assoc]
  rfl
theorem fillW_full (w : List Int) (n : Nat) (h : w.length = n) : fillW w n = w := by unfold fillW; rw [h]; simp
theorem zero_tail (w : List Int) (n : Nat) (h : w.length < n) : fillW w n = fillW (w ++ [0]) n := by
  unfold fillW
  rw [List.length_append, show n - w.length = (n - (w.length + 1)) + 1 from by omega, List.replicate_succ, List.append_assoc]; rfl
theorem ldF (w : List Int) (n : Nat) (i : Int) (m : Nat) (hi : i = m) (hm : m < w.length) (hn : w.length ≤ n) : (encW (fillW w n))[0 + i.toNat * 1]? = some (.v (.int .u32 (w.getD m 0))) := by
  rw [show 0 + i.toNat * 1 = m from by omega, encW_get _ _ (by rw [fillW_len _ _ hn]; omega), fillW_lo _ _ _ hm]
theorem setF (w : List Int) (n : Nat) (i x : Int) (hi : i = w.length) (h : w.length < n) : setO (encW (fillW w n)) (0 + i.toNat * 1) [.v (.int .u32 x)] = some (encW (fillW (w ++ [x]) n)) := by
  rw [show 0 + i.toNat * 1 = w.length from by omega, setO_one _ _ _ (by rw [encW_len, fillW_len _ _ (by omega)]; omega), encW_set, fillW_set _ _ _ h]
theorem setF2 (w : List Int) (n : Nat) (i x y : Int) (hi : i = w.length) (h : w.length < n) : setO (encW (fillW (w ++ [y]) n)) (0 + i.toNat * 1) [.v (.int .u32 x)] = some (encW (fillW (w ++ [x]) n)) := by
  rw [show 0 + i.toNat * 1 = w.length from by omega, setO_one _ _ _ (by rw [encW_len, fillW_len _ _ (by rw [List.length_append]; simp; omega)]; omega), encW_set, fillW_set2 _ _ _ _ h]
theorem words_spec (b : List Int) (hl : b.length = 64) (hb : ByteL b) (H : Hp) : ACall Tryz.prog 141 [.sl (encY b)] H (IsR H (.agg (encW (wordsU b 64)))) := by
  have hel := encY_len b
  have hes := encY_sz b
  refine UCall (n := 58) (H0 := H) (objs := []) Tryz.func141 (by kernel_rfl) rfl (by rw [Tryz.ntmps141]; rfl) .nil <| ?_
  refine Q.rg <| S.dd <| D.al z151 rfl (us := encW (fillW [] 64)) rfl rfl fun p2 => Q.nt <| S.sq <| Q.rg <| Q.mv rfl <| Q.nt <| UW.block <| S.loop (fun j : Nat => [(6, .v (.int .i64 (j : Int))), (2, .ptr p2 0), (0, .sl (encY b))]) (fun j => [(p2, .box 151 (encW (fillW (wordsU b j) 64)))]) (fun j => j ≤ 64) (fun j => 64 - j) 0 (Nat.zero_le _) ⟨rfl, rfl, rfl, trivial⟩ (.refl _) <| ?_
  intro j hj
  have hwl := wordsU_len b j
  have hfl := fillW_len (wordsU b j) 64 (by omega)
  by_cases hlt : j < 64
  · by_cases h16 : j < 16
    · have h4l : (((encY b).take (4 * j + 4)).drop (4 * j)).length = 4 := by rw [List.length_drop, List.length_take, hel]; omega
      have hsu : wordsU b (j + 1) = wordsU b j ++ [wordAcc b j 4] := by rw [wordsU, if_pos h16]
      refine Q.rg <| Q.bi rfl rfl rfl <| Q.nt <| S.sq <| S.cT rfl (decide_eq_true (by omega)) <| UW.skip <| UQ.then <| S.sq <| UW.block <| Q.rg <| Q.mv rfl <| Q.as rfl <| Q.nt <| S.sq <| Q.rg <| Q.mv rfl <| Q.bi rfl rfl rfl <| Q.nt <| S.cT rfl (decide_eq_true (by omega)) <| S.sq <| Q.rg <| Q.mv rfl <| Q.mv rfl <| S.qu (Z.mul (r := ((4 * j : Nat) : Int)) rfl rfl (IntWalk.i64_in _ (by omega))) <| Q.mv rfl <| S.qu (Z.mul (r := ((4 * j : Nat) : Int)) rfl rfl (IntWalk.i64_in _ (by omega))) <| S.qu (Z.add (r := ((4 * j + 4 : Nat) : Int)) rfl rfl (IntWalk.i64_in _ (by omega))) <| S.qu (Z.sls sl22 rfl hes (.both rfl rfl) (by omega) (by omega) rfl) <| S.qu (Z.eq (u' := .v (.int .i64 4)) (Z.lns sl22 rfl) (by rw [h4l]; rfl)) <| ?_
      refine Q.mv rfl <| Q.nt <| UW.block <| ?_
      rw [zero_tail (wordsU b j) 64 (by omega)]
      refine S.loop (fun k : Nat => [(19, .v (.int .i64 (k : Int))), (18, .v (.int .i64 4)), (17, .sl (((encY b).take (4 * j + 4)).drop (4 * j))), (3, .v (.int .i64 (j : Int))), (6, .v (.int .i64 (j : Int))), (2, .ptr p2 0), (0, .sl (encY b))]) (fun k => [(p2, .box 151 (encW (fillW (wordsU b j ++ [wordAcc b j k]) 64)))]) (fun k => k ≤ 4) (fun k => 4 - k) 0 (Nat.zero_le _) ⟨rfl, rfl, rfl, rfl, rfl, rfl, rfl, trivial⟩ (.refl _) <| ?_
      intro k hk
      by_cases hk4 : k < 4
      · have hat := hb.at (4 * j + k)
        have hget : (((encY b).take (4 * j + 4)).drop (4 * j))[((k : Nat) : Int).toNat]? = some [.v (.int .u8 (b.getD (4 * j + k) 0))] := by
          rw [Int.toNat_natCast, List.getElem?_drop, List.getElem?_take_of_lt (by omega), encY_get _ _ (by omega)]
        have hld := ldF (wordsU b j ++ [wordAcc b j k]) 64 (j : Int) j rfl (by rw [List.length_append, hwl]; simp) (by rw [List.length_append, hwl]; simp; omega)
        rw [show (wordsU b j ++ [wordAcc b j k]).getD j 0 = wordAcc b j k from by rw [List.getD_eq_getElem?_getD, List.getElem?_append_right (by omega), hwl, Nat.sub_self]; rfl] at hld
        have hset := setF2 (wordsU b j) 64 (j : Int) (wordAcc b j (k + 1)) (wordAcc b j k) (by rw [hwl]) (by omega)
        refine Q.rg <| Q.bi rfl rfl rfl <| Q.nt <| S.sq <| S.cT rfl (decide_eq_true (by omega)) <| UW.skip <| UQ.then <| S.sq <| UW.block <| Q.rg <| S.qu (Z.ia sl22 rfl rfl (by omega) hget (by rfl)) <| ?_
        refine S.qu (Z.lpc ty5 rfl) <| Q.as rfl <| Q.nt <| S.rg <| Q.mv rfl <| Q.mv rfl <| S.qu (Z.iar ar151 rfl rfl (by omega) (by omega)) <| S.qu (Z.ldc 0 ty119 rfl rfl hld) <| S.qu (Z.wshl rfl rfl (by omega)) <| Q.mv rfl <| S.qu (Z.cv Tryz.underlying119 rfl (IntWalk.u32_in _ (by omega)) (by rw [Tryz.underlying5]; rfl)) <| ?_
        refine S.qu (Z.wor rfl rfl) <| S.qu (Z.iar ar151 rfl rfl (by omega) (by omega)) <| S.s <| D.st 0 ty119 rfl rfl rfl rfl rfl rfl hset rfl fun _ => US.nil <| UQ.blockN <| UQ.then <| S.rg <| S.qu (Z.add (r := ((k + 1 : Nat) : Int)) rfl rfl (IntWalk.i64_in _ (by omega))) <| Q.mv rfl <| US.nil <| ?_
        refine S.back _ ⟨rfl, rfl, rfl, rfl, rfl, rfl, rfl, trivial⟩ (.refl _) (by omega) (by omega)
      · have hk4' : k = 4 := by omega
        subst hk4'
        rw [← hsu]
        refine Q.rg <| Q.bi rfl rfl rfl <| Q.nt <| S.sq <| S.cF rfl (decide_eq_false (by omega)) <| UW.exit <| UQ.pass <| UQ.pass <| UQ.here <| UQ.then <| UW.exit <| UQ.pass <| UQ.here <| UQ.then <| S.rg <| S.qu (Z.add (r := ((j + 1 : Nat) : Int)) rfl rfl (IntWalk.i64_in _ (by omega))) <| Q.mv rfl <| US.nil <| ?_
        refine S.back _ ⟨rfl, rfl, rfl, trivial⟩ (.refl _) (by omega) (by omega)
    · have hsu : wordsU b (j + 1) = wordsU b j ++ [wordNew (wordsU b j) j] := by rw [wordsU, if_neg h16]
      have h2 := ldF (wordsU b j) 64 ((j : Int) - 2) (j - 2) (by omega) (by omega) (by omega)
      have h7 := ldF (wordsU b j) 64 ((j : Int) - 7) (j - 7) (by omega) (by omega) (by omega)
      have h15 := ldF (wordsU b j) 64 ((j : Int) - 15) (j - 15) (by omega) (by omega) (by omega)
      have h16' := ldF (wordsU b j) 64 ((j : Int) - 16) (j - 16) (by omega) (by omega) (by omega)
      have hset := setF (wordsU b j) 64 (j : Int) (wordNew (wordsU b j) j) (by rw [hwl]) (by omega)
      rw [← hsu] at hset
      refine Q.rg <| Q.bi rfl rfl rfl <| Q.nt <| S.sq <| S.cT rfl (decide_eq_true (by omega)) <| UW.skip <| UQ.then <| S.sq <| UW.block <| Q.rg <| Q.mv rfl <| Q.as rfl <| Q.nt <| S.sq <| Q.rg <| Q.mv rfl <| Q.bi rfl rfl rfl <| Q.nt <| S.cF rfl (decide_eq_false (by omega)) <| UW.skip <| UQ.then <| ?_
      refine' UW.draw' (by kernel_rfl) [0, 0, 2, 6, 14, 30, 0, 64, 192, 448, 1022, 0, 2048, 6144, 14336, 30782, 65534, 0, 131072, 393216, 917504, 2097150, 4194303, 8388607] [some 33, some 34, some 35, some 36, some 37, some 38, some 39, some 40, some 41, some 42, some 43, some 44, some 45, some 46, some 47, some 48, some 49, some 50, some 51, some 52, some 53, some 54, some 55, none] [some (33, _), some (34, _), some (35, _), some (36, _), some (37, _), some (38, _), some (39, _), some (40, _), some (41, _), some (42, _), some (43, _), some (44, _), some (45, _), some (46, _), some (47, _), some (48, _), some (49, _), some (50, _), some (51, _), some (52, _), some (53, _), some (54, _), some (55, _), none] [23] [4, 9, 14, 20] rfl (by decide) (by decide) (QAll.free (by decide) rfl rfl ?q9x0_0 (QAll.free (by decide) rfl rfl ?q9x0_1 (QAll.free (by decide) rfl rfl ?q9x0_2 (QAll.free (by decide) rfl rfl ?q9x0_3 (QAll.held (by decide) rfl rfl ?q9x0_4 (QAll.free (by decide) rfl rfl ?q9x0_5 (QAll.free (by decide) rfl rfl ?q9x0_6 (QAll.free (by decide) rfl rfl ?q9x0_7 (QAll.free (by decide) rfl rfl ?q9x0_8 (QAll.held (by decide) rfl rfl ?q9x0_9 (QAll.free (by decide) rfl rfl ?q9x0_10 (QAll.free (by decide) rfl rfl ?q9x0_11 (QAll.free (by decide) rfl rfl ?q9x0_12 (QAll.free (by decide) rfl rfl ?q9x0_13 (QAll.held (by decide) rfl rfl ?q9x0_14 (QAll.free (by decide) rfl rfl ?q9x0_15 (QAll.free (by decide) rfl rfl ?q9x0_16 (QAll.free (by decide) rfl rfl ?q9x0_17 (QAll.free (by decide) rfl rfl ?q9x0_18 (QAll.free (by decide) rfl rfl ?q9x0_19 (QAll.held (by decide) rfl rfl ?q9x0_20 (QAll.free (by decide) rfl rfl ?q9x0_21 (QAll.free (by decide) rfl rfl ?q9x0_22 (QAll.skip QAll.nil)))))))))))))))))))))))) ?q9x0_k
      case q9x0_0 => (intro _; exact Z.mv rfl)
      case q9x0_1 => (intro _; exact Z.mv rfl)
      case q9x0_2 => (intro _; exact Z.sub rfl rfl (IntWalk.i64_in _ (by omega)))
      case q9x0_3 => (intro _; exact Z.iar ar151 rfl rfl (by omega) (by omega))
      case q9x0_4 => exact Z.ldc 0 ty119 rfl rfl h2
      case q9x0_5 => (intro _; exact Z.call rfl rfl (fun _ => small_spec _ _ _ _ (by omega) (by omega) (by omega) _))
      case q9x0_6 => (intro _; exact Z.mv rfl)
      case q9x0_7 => (intro _; exact Z.sub rfl rfl (IntWalk.i64_in _ (by omega)))
      case q9x0_8 => (intro _; exact Z.iar ar151 rfl rfl (by omega) (by omega))
      case q9x0_9 => exact Z.ldc 0 ty119 rfl rfl h7
      case q9x0_10 => (intro _; exact Z.wadd rfl rfl)
      case q9x0_11 => (intro _; exact Z.mv rfl)
      case q9x0_12 => (intro _; exact Z.sub rfl rfl (IntWalk.i64_in _ (by omega)))
      case q9x0_13 => (intro _; exact Z.iar ar151 rfl rfl (by omega) (by omega))
      case q9x0_14 => exact Z.ldc 0 ty119 rfl rfl h15
      case q9x0_15 => (intro _; exact Z.call rfl rfl (fun _ => small_spec _ _ _ _ (by omega) (by omega) (by omega) _))
      case q9x0_16 => (intro _; exact Z.wadd rfl rfl)
      case q9x0_17 => (intro _; exact Z.mv rfl)
      case q9x0_18 => (intro _; exact Z.sub rfl rfl (IntWalk.i64_in _ (by omega)))
      case q9x0_19 => (intro _; exact Z.iar ar151 rfl rfl (by omega) (by omega))
      case q9x0_20 => exact Z.ldc 0 ty119 rfl rfl h16'
      case q9x0_21 => (intro _; exact Z.wadd rfl rfl)
      case q9x0_22 => (intro _; exact Z.iar ar151 rfl rfl (by omega) (by omega))
      refine CH.cons0 rfl rfl <| D.st 0 ty119 rfl rfl rfl rfl rfl rfl hset rfl fun _ => CH.nil <| ?_
      simp only [app, finL]
      refine UQ.blockN <| UQ.then <| S.rg <| S.qu (Z.add (r := ((j + 1 : Nat) : Int)) rfl rfl (IntWalk.i64_in _ (by omega))) <| Q.mv rfl <| US.nil <| ?_
      refine S.back _ ⟨rfl, rfl, rfl, trivial⟩ (.refl _) (by omega) (by omega)
  · have hj64 : j = 64 := by omega
    subst hj64
    rw [fillW_full _ _ hwl]
    have hsz : (Tryz.prog.info? 151).map (·.size) = some (encW (wordsU b 64)).length := by rw [encW_len, hwl]; kernel_rfl
    refine Q.rg <| Q.bi rfl rfl rfl <| Q.nt <| S.sq <| S.cF rfl (decide_eq_false (by omega)) <| UW.exit <| UQ.pass <| UQ.pass <| UQ.here <| UQ.then <| Q.rg <| S.qu (Z.ldw 0 ty151 rfl rfl (by rw [encW_len, hwl])) <| ?_
    refine S.s <| D.stw 0 ty151 rfl rfl rfl rfl (encW_cell _) (by rw [encW_len, hwl]) (by rw [encW_len, hwl]) rfl fun _ => ?_
    refine Q.nt <| UW.ret <| S.rtR (fun hd => res_cella (k := 0) hd rfl rfl rfl Tryz.underlying151 (by assumption)) <| ?_
    rfl
end Go.Proofs.YtgmfgmbgmjbdhaaGreatDoor
end
section
namespace Go.Proofs.YtgmfgmbgmjbdhaaGreatDoor
open Go Go.RowKit Go.Eng
set_option linter.unusedSimpArgs false
set_option linter.unusedVariables false
set_option maxRecDepth 100000
set_option maxHeartbeats 4000000
def encR (w : List Int) : List (List AV) := w.map fun c => [.v (.int .u32 c)]
theorem encR_len (b : List Int) : (encR b).length = b.length := List.length_map ..
theorem encR_sz (b : List Int) : ∀ cs ∈ encR b, cs.length = 1 := by
  intro cs h
  obtain ⟨c, _, rfl⟩ := List.mem_map.1 h
  rfl
theorem encR_get (b : List Int) (j : Nat) (h : j < b.length) : (encR b)[j]? = some [.v (.int .u32 (b.getD j 0))] := by
  unfold encR
  rw [List.getElem?_map, List.getElem?_eq_getElem h, List.getD_eq_getElem?_getD, List.getElem?_eq_getElem h]; rfl
theorem encR_snoc (b : List Int) (x : Int) : encR (b ++ [x]) = encR b ++ [[.v (.int .u32 x)]] := by unfold encR; rw [List.map_append]; rfl
theorem encR_snoc' (b : List Int) (j : Nat) (x : Int) (h : b.length ≤ j) : (encR b).take j ++ [[.v (.int .u32 x)]] = encR (b ++ [x]) := by rw [List.take_of_length_le (by rw [encR_len]; omega), encR_snoc]
def keyW : List Int := [1116352408, 1899447441, 3049323471, 3921009573, 961987163, 1508970993, 2453635748, 2870763221, 3624381080, 310598401, 607225278, 1426881987, 1925078388, 2162078206, 2614888103, 3248222580, 3835390401, 4022224774, 264347078, 604807628, 770255983, 1249150122, 1555081692, 1996064986, 2554220882, 2821834349, 2952996808, 3210313671, 3336571891, 3584528711, 113926993, 338241895, 666307205, 773529912, 1294757372, 1396182291, 1695183700, 1986661051, 2177026350, 2456956037, 2730485921, 2820302411, 3259730800, 3345764771, 3516065817, 3600352804, 4094571909, 275423344, 430227734, 506948616, 659060556, 883997877, 958139571, 1322822218, 1537002063, 1747873779, 1955562222, 2024104815, 2227730452, 2361852424, 2428436474, 2756734187, 3204031479, 3329325298]
theorem keys_spec (H : Hp) : ACall Tryz.prog 142 [] H (IsR H (.agg (encW keyW))) := by
  have hsz : (Tryz.prog.info? 151).map (·.size) = some (encW keyW).length := by kernel_rfl
  refine UCall (n := 2) (H0 := H) (objs := []) Tryz.func142 (by kernel_rfl) rfl (by rw [Tryz.ntmps142]; rfl) .nil <| ?_
  refine Q.rg <| S.dd <| D.al z151 rfl rfl rfl fun p0 => Q.nt <| Q.rg <| S.qu (Z.bar ar151 z151 rfl rfl rfl rfl rfl) <| S.s <| D.st 0 ty151 rfl rfl rfl rfl rfl rfl rfl rfl fun _ => Q.nt <| UW.ret <| S.rtR (fun hd => res_cella (k := 0) hd rfl rfl rfl Tryz.underlying151 (by assumption)) <| ?_
  rfl
theorem keysW_spec (H : Hp) : ACall Tryz.prog 147 [] H (IsR H (.sl (encR keyW))) := by
  refine UCall (n := 2) (H0 := H) (objs := []) Tryz.func147 (by kernel_rfl) rfl (by rw [Tryz.ntmps147]; rfl) .nil <| ?_
  refine Q.rg <| Q.as rfl <| Q.nt <| Q.rg <| S.qu (Z.bl row133 rfl rfl (lit_ok rfl)) <| Q.as rfl <| Q.nt <| UW.ret <| S.rtR (fun _ => res_tmp rfl rfl) <| ?_
  rfl
theorem or_low (a c : Int) (k : Nat) (ha : 0 ≤ a) (hc : 0 ≤ c) (hck : c < 2 ^ k) (hb : a * 2 ^ k + c < 4294967296) : orW (a * 2 ^ k) c = a * 2 ^ k + c := by
  obtain ⟨a, rfl⟩ := Int.eq_ofNat_of_zero_le ha
  obtain ⟨c, rfl⟩ := Int.eq_ofNat_of_zero_le hc
  have h1 : ((a : Int) * 2 ^ k) = ((a * 2 ^ k : Nat) : Int) := by simp
  have h2 : c < 2 ^ k := by
    have : ((c : Nat) : Int) < ((2 ^ k : Nat) : Int) := by simpa using hck
    omega
  rw [h1] at hb ⊢
  have h3 : a * 2 ^ k + c < 4294967296 := by omega
  unfold orW
  rw [show IntKind.u32.bits = 32 from rfl, BitVec.toNat_or, BitVec.toNat_ofInt, BitVec.toNat_ofInt]
  have e1 : (((a * 2 ^ k : Nat) : Int) % ((2 ^ 32 : Nat) : Int)).toNat = a * 2 ^ k := by omega
  have e2 : (((c : Nat) : Int) % ((2 ^ 32 : Nat) : Int)).toNat = c := by omega
  rw [e1, e2, ← Nat.shiftLeft_eq, ← Nat.shiftLeft_add_eq_or_of_lt h2, Nat.shiftLeft_eq, IntWalk.u32_in _ (by omega)]
  omega
theorem shl_in (a : Int) (k : Nat) (hk : k ≤ 32) (ha : 0 ≤ a) (hb : a * 2 ^ k < 4294967296) : shlW a (k : Int) = a * 2 ^ k := by
  unfold shlW
  rw [Int.toNat_natCast, Nat.min_eq_left (by show k ≤ 32; exact hk), IntWalk.u32_in _ ⟨by exact Int.mul_nonneg ha (by exact Int.le_of_lt (Int.pow_pos (by decide))), by omega⟩]
theorem shl8 (a : Int) (ha : 0 ≤ a) (hb : a * 2 ^ 8 < 4294967296) : shlW a 8 = a * 2 ^ 8 := shl_in a 8 (by decide) ha hb
def beW (c0 c1 c2 c3 : Int) : Int := orW (orW (orW (shlW c0 24) (shlW c1 16)) (shlW c2 8)) c3
theorem beW_eq (c0 c1 c2 c3 : Int) (h0 : 0 ≤ c0 ∧ c0 < 256) (h1 : 0 ≤ c1 ∧ c1 < 256) (h2 : 0 ≤ c2 ∧ c2 < 256) (h3 : 0 ≤ c3 ∧ c3 < 256) : beW c0 c1 c2 c3 = c0 * 16777216 + c1 * 65536 + c2 * 256 + c3 := by
  have s0 : shlW c0 24 = c0 * 2 ^ 24 := shl_in c0 24 (by decide) h0.1 (by omega)
  have s1 : shlW c1 16 = c1 * 2 ^ 16 := shl_in c1 16 (by decide) h1.1 (by omega)
  have s2 : shlW c2 8 = c2 * 2 ^ 8 := shl_in c2 8 (by decide) h2.1 (by omega)
  unfold beW
  rw [s0, s1, s2]
  rw [or_low c0 (c1 * 2 ^ 16) 24 h0.1 (by omega) (by omega) (by omega)]
  rw [show c0 * 2 ^ 24 + c1 * 2 ^ 16 = (c0 * 2 ^ 8 + c1) * 2 ^ 16 from by omega, or_low _ (c2 * 2 ^ 8) 16 (by omega) (by omega) (by omega) (by omega)]
  rw [show (c0 * 2 ^ 8 + c1) * 2 ^ 16 + c2 * 2 ^ 8 = (c0 * 2 ^ 16 + c1 * 2 ^ 8 + c2) * 2 ^ 8 from by omega, or_low _ c3 8 (by omega) (by omega) (by omega) (by omega)]
  omega
theorem acc_eq (b : List Int) (hb : ByteL b) (t : Nat) : wordAcc b t 4 = b.getD (4 * t) 0 * 16777216 + b.getD (4 * t + 1) 0 * 65536 + b.getD (4 * t + 2) 0 * 256 + b.getD (4 * t + 3) 0 := by
  have h0 := hb.at (4 * t)
  have h1 := hb.at (4 * t + 1)
  have h2 := hb.at (4 * t + 2)
  have h3 := hb.at (4 * t + 3)
  have a0 : wordAcc b t 0 = 0 := rfl
  have a1 : wordAcc b t 1 = b.getD (4 * t) 0 := by
    rw [wordAcc, a0, shl8 0 (by decide) (by decide), or_low 0 _ 8 (by decide) (by exact h0.1) (by exact h0.2) (by have := h0.2; show (0 : Int) * 2 ^ 8 + b.getD (4 * t) 0 < _; omega)]
    show (0 : Int) * 2 ^ 8 + b.getD (4 * t) 0 = _
    omega
  have a2 : wordAcc b t 2 = b.getD (4 * t) 0 * 256 + b.getD (4 * t + 1) 0 := by
    rw [wordAcc, a1, shl8 _ h0.1 (by omega), or_low _ _ 8 h0.1 h1.1 (by omega) (by omega)]
    omega
  have a3 : wordAcc b t 3 = b.getD (4 * t) 0 * 65536 + b.getD (4 * t + 1) 0 * 256 + b.getD (4 * t + 2) 0 := by
    rw [wordAcc, a2, shl8 _ (by omega) (by omega), or_low _ _ 8 (by omega) h2.1 (by omega) (by omega)]
    omega
  rw [wordAcc, a3, shl8 _ (by omega) (by omega), or_low _ _ 8 (by omega) h3.1 (by omega) (by omega)]
  omega
theorem be_acc (b : List Int) (hb : ByteL b) (t : Nat) : beW (b.getD (4 * t) 0) (b.getD (4 * t + 1) 0) (b.getD (4 * t + 2) 0) (b.getD (4 * t + 3) 0) = wordAcc b t 4 := by
  rw [acc_eq b hb, beW_eq _ _ _ _ (hb.at _) (hb.at _) (hb.at _) (hb.at _)]
theorem wordsR_spec (b : List Int) (hl : b.length = 64) (hb : ByteL b) (H : Hp) : ACall Tryz.prog 146 [.sl (encY b)] H (IsR H (.sl (encR (wordsU b 64)))) := by
  have hel := encY_len b
  refine UCall (n := 99) (H0 := H) (objs := []) Tryz.func146 (by kernel_rfl) rfl (by rw [Tryz.ntmps146]; rfl) .nil <| ?_
  refine Q.rg <| Q.as rfl <| Q.nt <| Q.rg <| Q.as rfl <| US.nilOwn 3 118 1 (by decide) rfl fun p3 => Q.nt <| S.sq <| Q.rg <| Q.as rfl <| Q.nt <| UW.block <| S.loop (fun j : Nat × Nat => [(4, .v (.int .i64 (j.1 : Int))), (3, .own j.2 0 j.1 1), (0, .sl (encY b))]) (fun j => [(j.2, .row 118 1 (encR (wordsU b j.1)))]) (fun j => j.1 ≤ 16) (fun j => 16 - j.1) (0, p3) (Nat.zero_le _) ⟨rfl, rfl, rfl, trivial⟩ (.refl _) <| ?_
  rintro ⟨j, r⟩ hj
  dsimp only at hj ⊢
  have hwl := wordsU_len b j
  by_cases hlt : j < 16
  · have hsu : wordsU b (j + 1) = wordsU b j ++ [wordAcc b j 4] := by rw [wordsU, if_pos hlt]
    have hap := encR_snoc' (wordsU b j) j (wordAcc b j 4) (by omega)
    rw [← hsu, ← be_acc b hb] at hap
    have b0 := hb.at (4 * j)
    have b1 := hb.at (4 * j + 1)
    have b2 := hb.at (4 * j + 2)
    have b3 := hb.at (4 * j + 3)
    have g0 := encY_get b (4 * j) (by omega)
    have g1 := encY_get b (4 * j + 1) (by omega)
    have g2 := encY_get b (4 * j + 2) (by omega)
    have g3 := encY_get b (4 * j + 3) (by omega)
    have hrl := encR_len (wordsU b j)
    refine S.sq <| Q.rg <| Q.mv rfl <| Q.bi rfl rfl rfl <| Q.nt <| S.cT rfl (decide_eq_true (by omega)) <| UW.skip <| UQ.then <| S.sq <| UW.block <| ?_
    refine' UW.draw' (by kernel_rfl) [0, 0, 0, 4, 14, 30, 62, 126, 0, 0, 512, 1536, 3840, 7936, 16128, 32512, 65534, 0, 0, 262144, 786432, 1966080, 4063232, 8257536, 16646144, 33554430, 0, 0, 134217728, 402653184, 1006632960, 2080374784, 4227858432, 8589934590, 17179869182, 34359738367, 68719476735] [some 14, some 15, some 16, some 17, some 18, some 19, some 20, some 21, some 22, some 23, some 24, some 25, some 26, some 27, some 28, some 29, some 30, some 31, some 32, some 33, some 34, some 35, some 36, some 37, some 38, some 39, some 40, some 41, some 42, some 43, some 44, some 45, some 46, some 47, some 48, none, none] [some (14, _), some (15, _), some (16, _), some (17, _), some (18, _), some (19, _), some (20, _), some (21, _), some (22, _), some (23, _), some (24, _), some (25, _), some (26, _), some (27, _), some (28, _), some (29, _), some (30, _), some (31, _), some (32, _), some (33, _), some (34, _), some (35, _), some (36, _), some (37, _), some (38, _), some (39, _), some (40, _), some (41, _), some (42, _), some (43, _), some (44, _), some (45, _), some (46, _), some (47, _), some (48, _), none, none] [35, 36] [5, 13, 22, 31] rfl (by decide) (by decide) (QAll.free (by decide) rfl rfl ?q3x0_0 (QAll.free (by decide) rfl rfl ?q3x0_1 (QAll.free (by decide) rfl rfl ?q3x0_2 (QAll.free (by decide) rfl rfl ?q3x0_3 (QAll.free (by decide) rfl rfl ?q3x0_4 (QAll.held (by decide) rfl rfl ?q3x0_5 (QAll.free (by decide) rfl rfl ?q3x0_6 (QAll.free (by decide) rfl rfl ?q3x0_7 (QAll.free (by decide) rfl rfl ?q3x0_8 (QAll.free (by decide) rfl rfl ?q3x0_9 (QAll.free (by decide) rfl rfl ?q3x0_10 (QAll.free (by decide) rfl rfl ?q3x0_11 (QAll.free (by decide) rfl rfl ?q3x0_12 (QAll.held (by decide) rfl rfl ?q3x0_13 (QAll.free (by decide) rfl rfl ?q3x0_14 (QAll.free (by decide) rfl rfl ?q3x0_15 (QAll.free (by decide) rfl rfl ?q3x0_16 (QAll.free (by decide) rfl rfl ?q3x0_17 (QAll.free (by decide) rfl rfl ?q3x0_18 (QAll.free (by decide) rfl rfl ?q3x0_19 (QAll.free (by decide) rfl rfl ?q3x0_20 (QAll.free (by decide) rfl rfl ?q3x0_21 (QAll.held (by decide) rfl rfl ?q3x0_22 (QAll.free (by decide) rfl rfl ?q3x0_23 (QAll.free (by decide) rfl rfl ?q3x0_24 (QAll.free (by decide) rfl rfl ?q3x0_25 (QAll.free (by decide) rfl rfl ?q3x0_26 (QAll.free (by decide) rfl rfl ?q3x0_27 (QAll.free (by decide) rfl rfl ?q3x0_28 (QAll.free (by decide) rfl rfl ?q3x0_29 (QAll.free (by decide) rfl rfl ?q3x0_30 (QAll.held (by decide) rfl rfl ?q3x0_31 (QAll.free (by decide) rfl rfl ?q3x0_32 (QAll.free (by decide) rfl rfl ?q3x0_33 (QAll.free (by decide) rfl rfl ?q3x0_34 (QAll.skip (QAll.skip QAll.nil))))))))))))))))))))))))))))))))))))) ?q3x0_k
    case q3x0_0 => (intro _; exact Z.mv rfl)
    case q3x0_1 => (intro _; exact Z.mv rfl)
    case q3x0_2 => (intro _; exact Z.mv rfl)
    case q3x0_3 => (intro _; exact Z.mul (r := ((4 * j : Nat) : Int)) rfl rfl (IntWalk.i64_in _ (by omega)))
    case q3x0_4 => (intro _; exact Z.ia sl22 rfl rfl (by omega) g0 (by rfl))
    case q3x0_5 => exact Z.lpc ty5 rfl
    case q3x0_6 => (intro _; exact Z.cv Tryz.underlying118 rfl (IntWalk.u32_in _ (by omega)) (by rw [Tryz.underlying5]; rfl))
    case q3x0_7 => (intro _; exact Z.wshl rfl rfl (by omega))
    case q3x0_8 => (intro _; exact Z.mv rfl)
    case q3x0_9 => (intro _; exact Z.mv rfl)
    case q3x0_10 => (intro _; exact Z.mul (r := ((4 * j : Nat) : Int)) rfl rfl (IntWalk.i64_in _ (by omega)))
    case q3x0_11 => (intro _; exact Z.add (r := ((4 * j + 1 : Nat) : Int)) rfl rfl (IntWalk.i64_in _ (by omega)))
    case q3x0_12 => (intro _; exact Z.ia sl22 rfl rfl (by omega) g1 (by rfl))
    case q3x0_13 => exact Z.lpc ty5 rfl
    case q3x0_14 => (intro _; exact Z.cv Tryz.underlying118 rfl (IntWalk.u32_in _ (by omega)) (by rw [Tryz.underlying5]; rfl))
    case q3x0_15 => (intro _; exact Z.wshl rfl rfl (by omega))
    case q3x0_16 => (intro _; exact Z.wor rfl rfl)
    case q3x0_17 => (intro _; exact Z.mv rfl)
    case q3x0_18 => (intro _; exact Z.mv rfl)
    case q3x0_19 => (intro _; exact Z.mul (r := ((4 * j : Nat) : Int)) rfl rfl (IntWalk.i64_in _ (by omega)))
    case q3x0_20 => (intro _; exact Z.add (r := ((4 * j + 2 : Nat) : Int)) rfl rfl (IntWalk.i64_in _ (by omega)))
    case q3x0_21 => (intro _; exact Z.ia sl22 rfl rfl (by omega) g2 (by rfl))
    case q3x0_22 => exact Z.lpc ty5 rfl
    case q3x0_23 => (intro _; exact Z.cv Tryz.underlying118 rfl (IntWalk.u32_in _ (by omega)) (by rw [Tryz.underlying5]; rfl))
    case q3x0_24 => (intro _; exact Z.wshl rfl rfl (by omega))
    case q3x0_25 => (intro _; exact Z.wor rfl rfl)
    case q3x0_26 => (intro _; exact Z.mv rfl)
    case q3x0_27 => (intro _; exact Z.mv rfl)
    case q3x0_28 => (intro _; exact Z.mul (r := ((4 * j : Nat) : Int)) rfl rfl (IntWalk.i64_in _ (by omega)))
    case q3x0_29 => (intro _; exact Z.add (r := ((4 * j + 3 : Nat) : Int)) rfl rfl (IntWalk.i64_in _ (by omega)))
    case q3x0_30 => (intro _; exact Z.ia sl22 rfl rfl (by omega) g3 (by rfl))
    case q3x0_31 => exact Z.lpc ty5 rfl
    case q3x0_32 => (intro _; exact Z.cv Tryz.underlying118 rfl (IntWalk.u32_in _ (by omega)) (by rw [Tryz.underlying5]; rfl))
    case q3x0_33 => (intro _; exact Z.wor rfl rfl)
    case q3x0_34 => (intro _; exact Z.bl row133 rfl rfl (lit_ok rfl))
    refine CH.cons rfl rfl (by decide) <| D.ap 0 row133 rfl rfl (by omega) rfl (.sl (lit_sz rfl)) (by first | omega | (simp; omega)) hap fun p49 => ?_
    refine CH.cons rfl rfl (by decide) <| D.qu (Z.as rfl) <| CH.nil <| ?_
    simp only [app, finL]
    refine UQ.blockN <| UQ.then <| S.rg <| Q.mv rfl <| S.qu (Z.add (r := ((j + 1 : Nat) : Int)) rfl rfl (IntWalk.i64_in _ (by omega))) <| Q.as rfl <| US.nil <| ?_
    refine S.back (j + 1, p49) ⟨rfl, rfl, rfl, trivial⟩ (.refl _) (by omega) (by omega)
  · have hj16 : j = 16 := by omega
    subst hj16
    refine S.sq <| Q.rg <| Q.mv rfl <| Q.bi rfl rfl rfl <| Q.nt <| S.cF rfl (decide_eq_false (by omega)) <| UW.exit <| UQ.pass <| UQ.pass <| UQ.here <| UQ.then <| S.sq <| Q.rg <| Q.as rfl <| Q.nt <| UW.block <| S.loop (fun j : Nat × Nat => [(5, .v (.int .i64 (j.1 : Int))), (3, .own j.2 0 j.1 1)]) (fun j => [(j.2, .row 118 1 (encR (wordsU b j.1)))]) (fun j => 16 ≤ j.1 ∧ j.1 ≤ 64) (fun j => 64 - j.1) (16, r) ⟨Nat.le_refl _, by show 16 ≤ 64; decide⟩ ⟨rfl, rfl, trivial⟩ (.refl _) <| ?_
    rintro ⟨j, r⟩ hj
    dsimp only at hj ⊢
    have hwl := wordsU_len b j
    have hrl := encR_len (wordsU b j)
    have hrs := encR_sz (wordsU b j)
    by_cases hlt : j < 64
    · have hsu : wordsU b (j + 1) = wordsU b j ++ [wordNew (wordsU b j) j] := by rw [wordsU, if_neg (by omega)]
      have hap := encR_snoc' (wordsU b j) j (wordNew (wordsU b j) j) (by omega)
      rw [← hsu] at hap
      have g2 := encR_get (wordsU b j) (j - 2) (by omega)
      have g7 := encR_get (wordsU b j) (j - 7) (by omega)
      have g15 := encR_get (wordsU b j) (j - 15) (by omega)
      have g16 := encR_get (wordsU b j) (j - 16) (by omega)
      refine S.sq <| Q.rg <| Q.mv rfl <| Q.bi rfl rfl rfl <| Q.nt <| S.cT rfl (decide_eq_true (by omega)) <| UW.skip <| UQ.then <| S.sq <| UW.block <| Q.rg <| Q.mv rfl <| Q.mv rfl <| S.qu (Z.sub rfl rfl (IntWalk.i64_in _ (by omega))) <| S.qu (Z.io sl133 rfl rfl (by omega) (by omega)) <| S.qu (Z.lrc 0 ty118 rfl rfl (m := j - 15) (by omega) hrs g15) <| Q.as rfl <| Q.nt <| Q.rg <| Q.mv rfl <| Q.mv rfl <| S.qu (Z.sub rfl rfl (IntWalk.i64_in _ (by omega))) <| S.qu (Z.io sl133 rfl rfl (by omega) (by omega)) <| S.qu (Z.lrc 0 ty118 rfl rfl (m := j - 2) (by omega) hrs g2) <| Q.as rfl <| Q.nt <| Q.rg <| Q.mv rfl <| S.qu (Z.call rfl rfl (fun _ => turn_spec _ _ (by omega) (by omega) _)) <| Q.mv rfl <| S.qu (Z.call rfl rfl (fun _ => turn_spec _ _ (by omega) (by omega) _)) <| S.qu (Z.wxor rfl rfl) <| Q.mv rfl <| S.qu (Z.wshr rfl rfl (by omega)) <| S.qu (Z.wxor rfl rfl) <| Q.as rfl <| Q.nt <| Q.rg <| Q.mv rfl <| S.qu (Z.call rfl rfl (fun _ => turn_spec _ _ (by omega) (by omega) _)) <| Q.mv rfl <| S.qu (Z.call rfl rfl (fun _ => turn_spec _ _ (by omega) (by omega) _)) <| S.qu (Z.wxor rfl rfl) <| Q.mv rfl <| S.qu (Z.wshr rfl rfl (by omega)) <| S.qu (Z.wxor rfl rfl) <| Q.as rfl <| Q.nt <| ?_
      refine' UW.draw' (by kernel_rfl) [0, 0, 0, 0, 8, 28, 60, 126, 0, 510, 0, 0, 2048, 7168, 15360, 32766, 65534, 131071, 262143] [some 80, some 81, some 82, some 83, some 84, some 85, some 86, some 87, some 88, some 89, some 90, some 91, some 92, some 93, some 94, some 95, some 96, none, none] [some (80, _), some (81, _), some (82, _), some (83, _), some (84, _), some (85, _), some (86, _), some (87, _), some (88, _), some (89, _), some (90, _), some (91, _), some (92, _), some (93, _), some (94, _), some (95, _), some (96, _), none, none] [17, 18] [6, 14] rfl (by decide) (by decide) (QAll.free (by decide) rfl rfl ?q5x0_0 (QAll.free (by decide) rfl rfl ?q5x0_1 (QAll.free (by decide) rfl rfl ?q5x0_2 (QAll.free (by decide) rfl rfl ?q5x0_3 (QAll.free (by decide) rfl rfl ?q5x0_4 (QAll.free (by decide) rfl rfl ?q5x0_5 (QAll.held (by decide) rfl rfl ?q5x0_6 (QAll.free (by decide) rfl rfl ?q5x0_7 (QAll.free (by decide) rfl rfl ?q5x0_8 (QAll.free (by decide) rfl rfl ?q5x0_9 (QAll.free (by decide) rfl rfl ?q5x0_10 (QAll.free (by decide) rfl rfl ?q5x0_11 (QAll.free (by decide) rfl rfl ?q5x0_12 (QAll.free (by decide) rfl rfl ?q5x0_13 (QAll.held (by decide) rfl rfl ?q5x0_14 (QAll.free (by decide) rfl rfl ?q5x0_15 (QAll.free (by decide) rfl rfl ?q5x0_16 (QAll.skip (QAll.skip QAll.nil))))))))))))))))))) ?q5x0_k
      case q5x0_0 => (intro _; exact Z.mv rfl)
      case q5x0_1 => (intro _; exact Z.mv rfl)
      case q5x0_2 => (intro _; exact Z.mv rfl)
      case q5x0_3 => (intro _; exact Z.mv rfl)
      case q5x0_4 => (intro _; exact Z.sub rfl rfl (IntWalk.i64_in _ (by omega)))
      case q5x0_5 => (intro _; exact Z.io sl133 rfl rfl (by omega) (by omega))
      case q5x0_6 => exact Z.lrc 0 ty118 rfl rfl (m := j - 7) (by omega) hrs g7
      case q5x0_7 => (intro _; exact Z.wadd rfl rfl)
      case q5x0_8 => (intro _; exact Z.mv rfl)
      case q5x0_9 => (intro _; exact Z.wadd rfl rfl)
      case q5x0_10 => (intro _; exact Z.mv rfl)
      case q5x0_11 => (intro _; exact Z.mv rfl)
      case q5x0_12 => (intro _; exact Z.sub rfl rfl (IntWalk.i64_in _ (by omega)))
      case q5x0_13 => (intro _; exact Z.io sl133 rfl rfl (by omega) (by omega))
      case q5x0_14 => exact Z.lrc 0 ty118 rfl rfl (m := j - 16) (by omega) hrs g16
      case q5x0_15 => (intro _; exact Z.wadd rfl rfl)
      case q5x0_16 => (intro _; exact Z.bl row133 rfl rfl (lit_ok rfl))
      refine CH.cons rfl rfl (by decide) <| D.ap 0 row133 rfl rfl (by omega) rfl (.sl (lit_sz rfl)) (by first | omega | (simp; omega)) hap fun p97 => ?_
      refine CH.cons rfl rfl (by decide) <| D.qu (Z.as rfl) <| CH.nil <| ?_
      simp only [app, finL]
      refine UQ.blockN <| UQ.then <| S.rg <| Q.mv rfl <| S.qu (Z.add (r := ((j + 1 : Nat) : Int)) rfl rfl (IntWalk.i64_in _ (by omega))) <| Q.as rfl <| US.nil <| ?_
      refine S.back (j + 1, p97) ⟨rfl, rfl, trivial⟩ (.refl _) (by omega) (by omega)
    · have hj64 : j = 64 := by omega
      subst hj64
      refine S.sq <| Q.rg <| Q.mv rfl <| Q.bi rfl rfl rfl <| Q.nt <| S.cF rfl (decide_eq_false (by omega)) <| UW.exit <| UQ.pass <| UQ.pass <| UQ.here <| UQ.then <| Q.rg <| Q.mv rfl <| Q.as rfl <| US.freeze' 2 0 (rs := encR (wordsU b 64)) rfl rfl (by rw [hrl, hwl]; decide) (by rw [List.drop_zero, List.take_of_length_le (by omega)]) <| ?_
      refine Q.nt <| UW.ret <| S.rtR (fun _ => res_tmp rfl rfl) <| ?_
      rfl
end Go.Proofs.YtgmfgmbgmjbdhaaGreatDoor
end
