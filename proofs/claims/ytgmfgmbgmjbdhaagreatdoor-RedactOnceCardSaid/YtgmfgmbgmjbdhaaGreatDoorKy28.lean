/- Words of 32 bits: the digest's steps. · The digest's keys, a block's words by the document's answer. · The digest takes a block. -/
import Derived.Test.YtgmfgmbgmjbdhaaGreatDoorKy14
import Derived.Test.YtgmfgmbgmjbdhaaGreatDoorKy27
section
namespace Go.Proofs.YtgmfgmbgmjbdhaaGreatDoor
open Go Go.RowKit Go.Eng
set_option linter.unusedSimpArgs false
set_option linter.unusedVariables false
set_option maxRecDepth 100000
set_option maxHeartbeats 4000000
theorem ar121 : arT Tryz.prog 121 = some (8, 119, 1) := by kernel_rfl
theorem ar151 : arT Tryz.prog 151 = some (64, 119, 1) := by kernel_rfl
def rotW (x n : Int) : Int := orW (shrW x n) (shlW x (32 - n))
theorem orW_comm (a b : Int) : orW a b = orW b a := by unfold orW; rw [BitVec.or_comm]
theorem rot_amt : ∀ n : Fin 32, 0 < n.val → IntKind.u64.wrap (BitVec.ofInt IntKind.u64.bits (IntKind.u64.wrap (IntKind.i64.wrap (0 - (n.val : Int)))) &&& BitVec.ofInt IntKind.u64.bits 31).toNat = 32 - (n.val : Int) := by decide
theorem rotl_spec (x n : Int) (h0 : 0 < n) (h1 : n < 32) (H : Hp) : ACall Tryz.prog 166 [.v (.int .u32 x), .v (.int .i64 (IntKind.i64.wrap (0 - n)))] H (IsR H (.v (.int .u32 (rotW x n)))) := by
  have hr := rot_amt ⟨n.toNat, by omega⟩ (by show 0 < n.toNat; omega)
  rw [show (((⟨n.toNat, by omega⟩ : Fin 32).val : Nat) : Int) = n from Int.toNat_of_nonneg (by omega)] at hr
  refine UCall (n := 17) (H0 := H) (objs := []) Tryz.func166 (by kernel_rfl) rfl (by rw [Tryz.ntmps166]; rfl) .nil <| ?_
  refine Q.rg <| Q.as rfl <| Q.nt <| Q.rg <| Q.mv rfl <| S.qu (Z.cv Tryz.underlying86 rfl rfl (by rw [Tryz.underlying3]; rfl)) <| ?_
  refine S.qu (Z.eq (u' := .v (.int .u64 (32 - n))) (Z.bi rfl rfl rfl) (by rw [hr])) <| ?_
  refine Q.as rfl <| Q.nt <| Q.rg <| Q.mv rfl <| Q.mv rfl <| S.qu (Z.wshl rfl rfl (by omega)) <| Q.mv rfl <| Q.mv rfl <| S.qu (Z.sub (r := n) rfl rfl (by rw [show (32 : Int) - (32 - n) = n from by omega]; exact IntWalk.u64_in _ (by omega))) <| ?_
  refine S.qu (Z.wshr rfl rfl (by omega)) <| S.qu (Z.wor rfl rfl) <| Q.as rfl <| Q.nt <| UW.ret <| S.rtR (fun _ => res_tmp rfl rfl) <| ?_
  focus (rw [orW_comm]; rfl; done)
theorem right_spec (x n : Int) (h0 : 0 < n) (h1 : n < 32) (H : Hp) : ACall Tryz.prog 160 [.v (.int .u32 x), .v (.int .i64 n)] H (IsR H (.v (.int .u32 (rotW x n)))) := by
  refine UCall (n := 9) (H0 := H) (objs := []) Tryz.func160 (by kernel_rfl) rfl (by rw [Tryz.ntmps160]; rfl) .nil <| ?_
  refine Q.rg <| Q.as rfl <| Q.nt <| Q.rg <| Q.mv rfl <| Q.mv rfl <| S.qu (Z.neg rfl rfl) <| S.qu (Z.call rfl rfl (fun H => rotl_spec x n h0 h1 H)) <| Q.as rfl <| Q.nt <| UW.ret <| S.rtR (fun _ => res_tmp rfl rfl) <| ?_
  rfl
def smallW (x a b c : Int) : Int := xorW (xorW (rotW x a) (rotW x b)) (shrW x c)
def greatW (x a b c : Int) : Int := xorW (xorW (rotW x a) (rotW x b)) (rotW x c)
theorem small_spec (x a b c : Int) (ha : 0 < a ∧ a < 32) (hb : 0 < b ∧ b < 32) (hc : 0 ≤ c) (H : Hp) : ACall Tryz.prog 159 [.v (.int .u32 x), .v (.int .i64 a), .v (.int .i64 b), .v (.int .u64 c)] H (IsR H (.v (.int .u32 (smallW x a b c)))) := by
  refine UCall (n := 20) (H0 := H) (objs := []) Tryz.func159 (by kernel_rfl) rfl (by rw [Tryz.ntmps159]; rfl) .nil <| ?_
  refine Q.rg <| Q.as rfl <| Q.nt <| Q.rg <| Q.mv rfl <| Q.mv rfl <| S.qu (Z.call rfl rfl (fun _ => right_spec _ _ (by omega) (by omega) _)) <| Q.mv rfl <| Q.mv rfl <| S.qu (Z.call rfl rfl (fun _ => right_spec _ _ (by omega) (by omega) _)) <| S.qu (Z.wxor rfl rfl) <| Q.mv rfl <| Q.mv rfl <| S.qu (Z.wshr rfl rfl (by omega)) <| S.qu (Z.wxor rfl rfl) <| Q.as rfl <| Q.nt <| UW.ret <| S.rtR (fun _ => res_tmp rfl rfl) <| ?_
  rfl
theorem great_spec (x a b c : Int) (ha : 0 < a ∧ a < 32) (hb : 0 < b ∧ b < 32) (hc : 0 < c ∧ c < 32) (H : Hp) : ACall Tryz.prog 143 [.v (.int .u32 x), .v (.int .i64 a), .v (.int .i64 b), .v (.int .i64 c)] H (IsR H (.v (.int .u32 (greatW x a b c)))) := by
  refine UCall (n := 20) (H0 := H) (objs := []) Tryz.func143 (by kernel_rfl) rfl (by rw [Tryz.ntmps143]; rfl) .nil <| ?_
  refine Q.rg <| Q.as rfl <| Q.nt <| Q.rg <| Q.mv rfl <| Q.mv rfl <| S.qu (Z.call rfl rfl (fun _ => right_spec _ _ (by omega) (by omega) _)) <| Q.mv rfl <| Q.mv rfl <| S.qu (Z.call rfl rfl (fun _ => right_spec _ _ (by omega) (by omega) _)) <| S.qu (Z.wxor rfl rfl) <| Q.mv rfl <| Q.mv rfl <| S.qu (Z.call rfl rfl (fun _ => right_spec _ _ (by omega) (by omega) _)) <| S.qu (Z.wxor rfl rfl) <| Q.as rfl <| Q.nt <| UW.ret <| S.rtR (fun _ => res_tmp rfl rfl) <| ?_
  rfl
def encY (b : List Int) : List (List AV) := b.map fun c => [.v (.int .u8 c)]
def encW (w : List Int) : List AV := w.map fun c => .v (.int .u32 c)
theorem encY_len (b : List Int) : (encY b).length = b.length := List.length_map ..
theorem encY_sz (b : List Int) : ∀ cs ∈ encY b, cs.length = 1 := by
  intro cs h
  obtain ⟨c, _, rfl⟩ := List.mem_map.1 h
  rfl
theorem encY_get (b : List Int) (j : Nat) (h : j < b.length) : (encY b)[j]? = some [.v (.int .u8 (b.getD j 0))] := by
  unfold encY
  rw [List.getElem?_map, List.getElem?_eq_getElem h, List.getD_eq_getElem?_getD, List.getElem?_eq_getElem h]; rfl
theorem encW_len (b : List Int) : (encW b).length = b.length := List.length_map ..
theorem encW_get (b : List Int) (j : Nat) (h : j < b.length) : (encW b)[j]? = some (.v (.int .u32 (b.getD j 0))) := by
  unfold encW
  rw [List.getElem?_map, List.getElem?_eq_getElem h, List.getD_eq_getElem?_getD, List.getElem?_eq_getElem h]; rfl
theorem encW_set (b : List Int) (j : Nat) (x : Int) : (encW b).set j (.v (.int .u32 x)) = encW (b.set j x) := by unfold encW; rw [List.map_set]
theorem encW_cell (b : List Int) : (encW b).all cellAV = true := by
  rw [List.all_eq_true]
  intro x hx
  obtain ⟨c, _, rfl⟩ := List.mem_map.1 hx
  rfl
def ByteL (b : List Int) : Prop := ∀ c ∈ b, 0 ≤ c ∧ c < 256
theorem ByteL.at {b : List Int} (h : ByteL b) (j : Nat) : 0 ≤ b.getD j 0 ∧ b.getD j 0 < 256 := by
  by_cases hj : j < b.length
  · rw [List.getD_eq_getElem?_getD, List.getElem?_eq_getElem hj]
    exact h _ (List.getElem_mem hj)
  · rw [List.getD_eq_getElem?_getD, List.getElem?_eq_none (by omega)]
    decide
def wordAcc (b : List Int) (t : Nat) : Nat → Int
  | 0 => 0
  | k + 1 => orW (shlW (wordAcc b t k) 8) (b.getD (4 * t + k) 0)
def wordNew (w : List Int) (t : Nat) : Int := addW (addW (addW (smallW (w.getD (t - 2) 0) 17 19 10) (w.getD (t - 7) 0)) (smallW (w.getD (t - 15) 0) 7 18 3)) (w.getD (t - 16) 0)
def wordsU (b : List Int) : Nat → List Int
  | 0 => []
  | t + 1 => wordsU b t ++ [if t < 16 then wordAcc b t 4 else wordNew (wordsU b t) t]
theorem wordsU_len (b : List Int) : ∀ t, (wordsU b t).length = t
  | 0 => rfl
  | t + 1 => by rw [wordsU, List.length_append, wordsU_len b t]; rfl
/-- The array, filled up to t. -/
def fillW (w : List Int) (n : Nat) : List Int := w ++ List.replicate (n - w.length) 0
theorem fillW_len (w : List Int) (n : Nat) (h : w.length ≤ n) : (fillW w n).length = n := by unfold fillW; rw [List.length_append, List.length_replicate]; omega
theorem fillW_lo (w : List Int) (n j : Nat) (h : j < w.length) : (fillW w n).getD j 0 = w.getD j 0 := by
  unfold fillW
  rw [List.getD_eq_getElem?_getD, List.getD_eq_getElem?_getD, List.getElem?_append_left h]
theorem fillW_set (w : List Int) (n : Nat) (x : Int) (h : w.length < n) : (fillW w n).set w.length x = fillW (w ++ [x]) n := by
  unfold fillW
  rw [List.set_append_right _ _ (Nat.le_refl _), Nat.sub_self, List.length_append]
  rw [show n - w.length = (n - (w.length + 1)) + 1 from by omega, List.replicate_succ, List.set_cons_zero, List.append_assoc]
  rfl
theorem fillW_set2 (w : List Int) (n : Nat) (x y : Int) (h : w.length < n) : (fillW (w ++ [y]) n).set w.length x = fillW (w ++ [x]) n := by
  unfold fillW
  rw [List.append_assoc, List.set_append_right _ _ (Nat.le_refl _), Nat.sub_self, List.length_append, List.length_append, List.append_assoc]
  rfl
theorem fillW_full (w : List Int) (n : Nat) (h : w.length = n) : fillW w n = w := by unfold fillW; rw [h]; simp
theorem zero_tail (w : List Int) (n : Nat) (h : w.length < n) : fillW w n = fillW (w ++ [0]) n := by
  unfold fillW
  rw [List.length_append, show n - w.length = (n - (w.length + 1)) + 1 from by omega, List.replicate_succ, List.append_assoc]; rfl
theorem ldF (w : List Int) (n : Nat) (i : Int) (m : Nat) (hi : i = m) (hm : m < w.length) (hn : w.length ≤ n) : (encW (fillW w n))[0 + i.toNat * 1]? = some (.v (.int .u32 (w.getD m 0))) := by
  rw [show 0 + i.toNat * 1 = m from by omega, encW_get _ _ (by rw [fillW_len _ _ hn]; omega), fillW_lo _ _ _ hm]
theorem setF (w : List Int) (n : Nat) (i x : Int) (hi : i = w.length) (h : w.length < n) : setO (encW (fillW w n)) (0 + i.toNat * 1) [.v (.int .u32 x)] = some (encW (fillW (w ++ [x]) n)) := by
  rw [show 0 + i.toNat * 1 = w.length from by omega, setO_one _ _ _ (by rw [encW_len, fillW_len _ _ (by omega)]; omega), encW_set, fillW_set _ _ _ h]
theorem setF2 (w : List Int) (n : Nat) (i x y : Int) (hi : i = w.length) (h : w.length < n) : setO (encW (fillW (w ++ [y]) n)) (0 + i.toNat * 1) [.v (.int .u32 x)] = some (encW (fillW (w ++ [x]) n)) := by
  rw [show 0 + i.toNat * 1 = w.length from by omega, setO_one _ _ _ (by rw [encW_len, fillW_len _ _ (by rw [List.length_append]; simp; omega)]; omega), encW_set, fillW_set2 _ _ _ _ h]
theorem words_spec (b : List Int) (hl : b.length = 64) (hb : ByteL b) (H : Hp) : ACall Tryz.prog 141 [.sl (encY b)] H (IsR H (.agg (encW (wordsU b 64)))) := by
  have hel := encY_len b
  have hes := encY_sz b
  refine UCall (n := 58) (H0 := H) (objs := []) Tryz.func141 (by kernel_rfl) rfl (by rw [Tryz.ntmps141]; rfl) .nil <| ?_
  refine Q.rg <| S.dd <| D.al z151 rfl (us := encW (fillW [] 64)) rfl rfl fun p2 => Q.nt <| S.sq <| Q.rg <| Q.mv rfl <| Q.nt <| UW.block <| S.loop (fun j : Nat => [(6, .v (.int .i64 (j : Int))), (2, .ptr p2 0), (0, .sl (encY b))]) (fun j => [(p2, .box 151 (encW (fillW (wordsU b j) 64)))]) (fun j => j ≤ 64) (fun j => 64 - j) 0 (Nat.zero_le _) ⟨rfl, rfl, rfl, trivial⟩ (.refl _) <| ?_
  intro j hj
  have hwl := wordsU_len b j
  have hfl := fillW_len (wordsU b j) 64 (by omega)
  by_cases hlt : j < 64
  · by_cases h16 : j < 16
    · have h4l : (((encY b).take (4 * j + 4)).drop (4 * j)).length = 4 := by rw [List.length_drop, List.length_take, hel]; omega
      have hsu : wordsU b (j + 1) = wordsU b j ++ [wordAcc b j 4] := by rw [wordsU, if_pos h16]
      refine Q.rg <| Q.bi rfl rfl rfl <| Q.nt <| S.sq <| S.cT rfl (decide_eq_true (by omega)) <| UW.skip <| UQ.then <| S.sq <| UW.block <| Q.rg <| Q.mv rfl <| Q.as rfl <| Q.nt <| S.sq <| Q.rg <| Q.mv rfl <| Q.bi rfl rfl rfl <| Q.nt <| S.cT rfl (decide_eq_true (by omega)) <| S.sq <| Q.rg <| Q.mv rfl <| Q.mv rfl <| S.qu (Z.mul (r := ((4 * j : Nat) : Int)) rfl rfl (IntWalk.i64_in _ (by omega))) <| Q.mv rfl <| S.qu (Z.mul (r := ((4 * j : Nat) : Int)) rfl rfl (IntWalk.i64_in _ (by omega))) <| S.qu (Z.add (r := ((4 * j + 4 : Nat) : Int)) rfl rfl (IntWalk.i64_in _ (by omega))) <| S.qu (Z.sls sl22 rfl hes (.both rfl rfl) (by omega) (by omega) rfl) <| S.qu (Z.eq (u' := .v (.int .i64 4)) (Z.lns sl22 rfl) (by rw [h4l]; rfl)) <| ?_
      refine Q.mv rfl <| Q.nt <| UW.block <| ?_
      rw [zero_tail (wordsU b j) 64 (by omega)]
      refine S.loop (fun k : Nat => [(19, .v (.int .i64 (k : Int))), (18, .v (.int .i64 4)), (17, .sl (((encY b).take (4 * j + 4)).drop (4 * j))), (3, .v (.int .i64 (j : Int))), (6, .v (.int .i64 (j : Int))), (2, .ptr p2 0), (0, .sl (encY b))]) (fun k => [(p2, .box 151 (encW (fillW (wordsU b j ++ [wordAcc b j k]) 64)))]) (fun k => k ≤ 4) (fun k => 4 - k) 0 (Nat.zero_le _) ⟨rfl, rfl, rfl, rfl, rfl, rfl, rfl, trivial⟩ (.refl _) <| ?_
      intro k hk
      by_cases hk4 : k < 4
      · have hat := hb.at (4 * j + k)
        have hget : (((encY b).take (4 * j + 4)).drop (4 * j))[((k : Nat) : Int).toNat]? = some [.v (.int .u8 (b.getD (4 * j + k) 0))] := by
          rw [Int.toNat_natCast, List.getElem?_drop, List.getElem?_take_of_lt (by omega), encY_get _ _ (by omega)]
        have hld := ldF (wordsU b j ++ [wordAcc b j k]) 64 (j : Int) j rfl (by rw [List.length_append, hwl]; simp) (by rw [List.length_append, hwl]; simp; omega)
        rw [show (wordsU b j ++ [wordAcc b j k]).getD j 0 = wordAcc b j k from by rw [List.getD_eq_getElem?_getD, List.getElem?_append_right (by omega), hwl, Nat.sub_self]; rfl] at hld
        have hset := setF2 (wordsU b j) 64 (j : Int) (wordAcc b j (k + 1)) (wordAcc b j k) (by rw [hwl]) (by omega)
        refine Q.rg <| Q.bi rfl rfl rfl <| Q.nt <| S.sq <| S.cT rfl (decide_eq_true (by omega)) <| UW.skip <| UQ.then <| S.sq <| UW.block <| Q.rg <| S.qu (Z.ia sl22 rfl rfl (by omega) hget (by rfl)) <| ?_
        refine S.qu (Z.lpc ty5 rfl) <| Q.as rfl <| Q.nt <| S.rg <| Q.mv rfl <| Q.mv rfl <| S.qu (Z.iar ar151 rfl rfl (by omega) (by omega)) <| S.qu (Z.ldc 0 ty119 rfl rfl hld) <| S.qu (Z.wshl rfl rfl (by omega)) <| Q.mv rfl <| S.qu (Z.cv Tryz.underlying119 rfl (IntWalk.u32_in _ (by omega)) (by rw [Tryz.underlying5]; rfl)) <| ?_
        refine S.qu (Z.wor rfl rfl) <| S.qu (Z.iar ar151 rfl rfl (by omega) (by omega)) <| S.s <| D.st 0 ty119 rfl rfl rfl rfl rfl rfl hset rfl fun _ => US.nil <| UQ.blockN <| UQ.then <| S.rg <| S.qu (Z.add (r := ((k + 1 : Nat) : Int)) rfl rfl (IntWalk.i64_in _ (by omega))) <| Q.mv rfl <| US.nil <| ?_
        refine S.back _ ⟨rfl, rfl, rfl, rfl, rfl, rfl, rfl, trivial⟩ (.refl _) (by omega) (by omega)
      · have hk4' : k = 4 := by omega
        subst hk4'
        rw [← hsu]
        refine Q.rg <| Q.bi rfl rfl rfl <| Q.nt <| S.sq <| S.cF rfl (decide_eq_false (by omega)) <| UW.exit <| UQ.pass <| UQ.pass <| UQ.here <| UQ.then <| UW.exit <| UQ.pass <| UQ.here <| UQ.then <| S.rg <| S.qu (Z.add (r := ((j + 1 : Nat) : Int)) rfl rfl (IntWalk.i64_in _ (by omega))) <| Q.mv rfl <| US.nil <| ?_
        refine S.back _ ⟨rfl, rfl, rfl, trivial⟩ (.refl _) (by omega) (by omega)
    · have hsu : wordsU b (j + 1) = wordsU b j ++ [wordNew (wordsU b j) j] := by rw [wordsU, if_neg h16]
      have h2 := ldF (wordsU b j) 64 ((j : Int) - 2) (j - 2) (by omega) (by omega) (by omega)
      have h7 := ldF (wordsU b j) 64 ((j : Int) - 7) (j - 7) (by omega) (by omega) (by omega)
      have h15 := ldF (wordsU b j) 64 ((j : Int) - 15) (j - 15) (by omega) (by omega) (by omega)
      have h16' := ldF (wordsU b j) 64 ((j : Int) - 16) (j - 16) (by omega) (by omega) (by omega)
      have hset := setF (wordsU b j) 64 (j : Int) (wordNew (wordsU b j) j) (by rw [hwl]) (by omega)
      rw [← hsu] at hset
      refine Q.rg <| Q.bi rfl rfl rfl <| Q.nt <| S.sq <| S.cT rfl (decide_eq_true (by omega)) <| UW.skip <| UQ.then <| S.sq <| UW.block <| Q.rg <| Q.mv rfl <| Q.as rfl <| Q.nt <| S.sq <| Q.rg <| Q.mv rfl <| Q.bi rfl rfl rfl <| Q.nt <| S.cF rfl (decide_eq_false (by omega)) <| UW.skip <| UQ.then <| ?_
      refine' UW.draw' (by kernel_rfl) [0, 0, 2, 6, 14, 30, 0, 64, 192, 448, 1022, 0, 2048, 6144, 14336, 30782, 65534, 0, 131072, 393216, 917504, 2097150, 4194303, 8388607] [some 33, some 34, some 35, some 36, some 37, some 38, some 39, some 40, some 41, some 42, some 43, some 44, some 45, some 46, some 47, some 48, some 49, some 50, some 51, some 52, some 53, some 54, some 55, none] [some (33, _), some (34, _), some (35, _), some (36, _), some (37, _), some (38, _), some (39, _), some (40, _), some (41, _), some (42, _), some (43, _), some (44, _), some (45, _), some (46, _), some (47, _), some (48, _), some (49, _), some (50, _), some (51, _), some (52, _), some (53, _), some (54, _), some (55, _), none] [23] [4, 9, 14, 20] rfl (by decide) (by decide) (QAll.free (by decide) rfl rfl ?q9x0_0 (QAll.free (by decide) rfl rfl ?q9x0_1 (QAll.free (by decide) rfl rfl ?q9x0_2 (QAll.free (by decide) rfl rfl ?q9x0_3 (QAll.held (by decide) rfl rfl ?q9x0_4 (QAll.free (by decide) rfl rfl ?q9x0_5 (QAll.free (by decide) rfl rfl ?q9x0_6 (QAll.free (by decide) rfl rfl ?q9x0_7 (QAll.free (by decide) rfl rfl ?q9x0_8 (QAll.held (by decide) rfl rfl ?q9x0_9 (QAll.free (by decide) rfl rfl ?q9x0_10 (QAll.free (by decide) rfl rfl ?q9x0_11 (QAll.free (by decide) rfl rfl ?q9x0_12 (QAll.free (by decide) rfl rfl ?q9x0_13 (QAll.held (by decide) rfl rfl ?q9x0_14 (QAll.free (by decide) rfl rfl ?q9x0_15 (QAll.free (by decide) rfl rfl ?q9x0_16 (QAll.free (by decide) rfl rfl ?q9x0_17 (QAll.free (by decide) rfl rfl ?q9x0_18 (QAll.free (by decide) rfl rfl ?q9x0_19 (QAll.held (by decide) rfl rfl ?q9x0_20 (QAll.free (by decide) rfl rfl ?q9x0_21 (QAll.free (by decide) rfl rfl ?q9x0_22 (QAll.skip QAll.nil)))))))))))))))))))))))) ?q9x0_k
      case q9x0_0 => (intro _; exact Z.mv rfl)
      case q9x0_1 => (intro _; exact Z.mv rfl)
      case q9x0_2 => (intro _; exact Z.sub rfl rfl (IntWalk.i64_in _ (by omega)))
      case q9x0_3 => (intro _; exact Z.iar ar151 rfl rfl (by omega) (by omega))
      case q9x0_4 => exact Z.ldc 0 ty119 rfl rfl h2
      case q9x0_5 => (intro _; exact Z.call rfl rfl (fun _ => small_spec _ _ _ _ (by omega) (by omega) (by omega) _))
      case q9x0_6 => (intro _; exact Z.mv rfl)
      case q9x0_7 => (intro _; exact Z.sub rfl rfl (IntWalk.i64_in _ (by omega)))
      case q9x0_8 => (intro _; exact Z.iar ar151 rfl rfl (by omega) (by omega))
      case q9x0_9 => exact Z.ldc 0 ty119 rfl rfl h7
      case q9x0_10 => (intro _; exact Z.wadd rfl rfl)
      case q9x0_11 => (intro _; exact Z.mv rfl)
      case q9x0_12 => (intro _; exact Z.sub rfl rfl (IntWalk.i64_in _ (by omega)))
      case q9x0_13 => (intro _; exact Z.iar ar151 rfl rfl (by omega) (by omega))
      case q9x0_14 => exact Z.ldc 0 ty119 rfl rfl h15
      case q9x0_15 => (intro _; exact Z.call rfl rfl (fun _ => small_spec _ _ _ _ (by omega) (by omega) (by omega) _))
      case q9x0_16 => (intro _; exact Z.wadd rfl rfl)
      case q9x0_17 => (intro _; exact Z.mv rfl)
      case q9x0_18 => (intro _; exact Z.sub rfl rfl (IntWalk.i64_in _ (by omega)))
      case q9x0_19 => (intro _; exact Z.iar ar151 rfl rfl (by omega) (by omega))
      case q9x0_20 => exact Z.ldc 0 ty119 rfl rfl h16'
      case q9x0_21 => (intro _; exact Z.wadd rfl rfl)
      case q9x0_22 => (intro _; exact Z.iar ar151 rfl rfl (by omega) (by omega))
      refine CH.cons0 rfl rfl <| D.st 0 ty119 rfl rfl rfl rfl rfl rfl hset rfl fun _ => CH.nil <| ?_
      simp only [app, finL]
      refine UQ.blockN <| UQ.then <| S.rg <| S.qu (Z.add (r := ((j + 1 : Nat) : Int)) rfl rfl (IntWalk.i64_in _ (by omega))) <| Q.mv rfl <| US.nil <| ?_
      refine S.back _ ⟨rfl, rfl, rfl, trivial⟩ (.refl _) (by omega) (by omega)
  · have hj64 : j = 64 := by omega
    subst hj64
    rw [fillW_full _ _ hwl]
    have hsz : (Tryz.prog.info? 151).map (·.size) = some (encW (wordsU b 64)).length := by rw [encW_len, hwl]; kernel_rfl
    refine Q.rg <| Q.bi rfl rfl rfl <| Q.nt <| S.sq <| S.cF rfl (decide_eq_false (by omega)) <| UW.exit <| UQ.pass <| UQ.pass <| UQ.here <| UQ.then <| Q.rg <| S.qu (Z.ldw 0 ty151 rfl rfl (by rw [encW_len, hwl])) <| ?_
    refine S.s <| D.stw 0 ty151 rfl rfl rfl rfl (encW_cell _) (by rw [encW_len, hwl]) (by rw [encW_len, hwl]) rfl fun _ => ?_
    refine Q.nt <| UW.ret <| S.rtR (fun hd => res_cella (k := 0) hd rfl rfl rfl Tryz.underlying151 (by assumption)) <| ?_
    rfl
end Go.Proofs.YtgmfgmbgmjbdhaaGreatDoor
end
section
namespace Go.Proofs.YtgmfgmbgmjbdhaaGreatDoor
open Go Go.RowKit Go.Eng
set_option linter.unusedSimpArgs false
set_option linter.unusedVariables false
set_option maxRecDepth 100000
set_option maxHeartbeats 4000000
def keyW : List Int := [1116352408, 1899447441, 3049323471, 3921009573, 961987163, 1508970993, 2453635748, 2870763221, 3624381080, 310598401, 607225278, 1426881987, 1925078388, 2162078206, 2614888103, 3248222580, 3835390401, 4022224774, 264347078, 604807628, 770255983, 1249150122, 1555081692, 1996064986, 2554220882, 2821834349, 2952996808, 3210313671, 3336571891, 3584528711, 113926993, 338241895, 666307205, 773529912, 1294757372, 1396182291, 1695183700, 1986661051, 2177026350, 2456956037, 2730485921, 2820302411, 3259730800, 3345764771, 3516065817, 3600352804, 4094571909, 275423344, 430227734, 506948616, 659060556, 883997877, 958139571, 1322822218, 1537002063, 1747873779, 1955562222, 2024104815, 2227730452, 2361852424, 2428436474, 2756734187, 3204031479, 3329325298]
theorem keys_spec (H : Hp) : ACall Tryz.prog 142 [] H (IsR H (.agg (encW keyW))) := by
  have hsz : (Tryz.prog.info? 151).map (·.size) = some (encW keyW).length := by kernel_rfl
  refine UCall (n := 2) (H0 := H) (objs := []) Tryz.func142 (by kernel_rfl) rfl (by rw [Tryz.ntmps142]; rfl) .nil <| ?_
  refine Q.rg <| S.dd <| D.al z151 rfl rfl rfl fun p0 => Q.nt <| Q.rg <| S.qu (Z.bar ar151 z151 rfl rfl rfl rfl rfl) <| S.s <| D.st 0 ty151 rfl rfl rfl rfl rfl rfl rfl rfl fun _ => Q.nt <| UW.ret <| S.rtR (fun hd => res_cella (k := 0) hd rfl rfl rfl Tryz.underlying151 (by assumption)) <| ?_
  rfl
end Go.Proofs.YtgmfgmbgmjbdhaaGreatDoor
end
section
namespace Go.Proofs.YtgmfgmbgmjbdhaaGreatDoor
open Go Go.RowKit Go.Eng
set_option linter.unusedSimpArgs false
set_option linter.unusedVariables false
set_option maxRecDepth 100000
set_option maxHeartbeats 4000000
structure W8 where
  a : Int
  b : Int
  c : Int
  d : Int
  e : Int
  f : Int
  g : Int
  h : Int
def W8.l (x : W8) : List Int := [x.a, x.b, x.c, x.d, x.e, x.f, x.g, x.h]
def t1W (x : W8) (k w : Int) : Int := addW (addW (addW (addW x.h (greatW x.e 6 11 25)) (xorW (andW x.e x.f) (andW (notW x.e) x.g))) k) w
def t2W (x : W8) : Int := addW (greatW x.a 2 13 22) (xorW (xorW (andW x.a x.b) (andW x.a x.c)) (andW x.b x.c))
def roundW (x : W8) (k w : Int) : W8 := ⟨addW (t1W x k w) (t2W x), x.a, x.b, x.c, addW x.d (t1W x k w), x.e, x.f, x.g⟩
def roundsW (ws : List Int) (x : W8) : Nat → W8
  | 0 => x
  | t + 1 => roundW (roundsW ws x t) (keyW.getD t 0) (ws.getD t 0)
def plusW (x h : W8) : W8 := ⟨addW x.a h.a, addW x.b h.b, addW x.c h.c, addW x.d h.d, addW x.e h.e, addW x.f h.f, addW x.g h.g, addW x.h h.h⟩
def takeW (h : W8) (b : List Int) : W8 := plusW (roundsW (wordsU b 64) h 64) h
/-- The first m of the sums, the rest as it was. -/
def mixW (x h : W8) (m : Nat) : List Int := (plusW x h).l.take m ++ x.l.drop m
theorem mixW_len (x h : W8) (m : Nat) : (mixW x h m).length = 8 := by unfold mixW; rw [List.length_append, List.length_take, List.length_drop]; show min m 8 + (8 - m) = 8; omega
theorem mixW_at (x h : W8) : ∀ m : Fin 8, (mixW x h m.val).getD m.val 0 = x.l.getD m.val 0 := by
  rintro ⟨m, hm⟩
  match m, hm with
  | 0, _ => rfl
  | 1, _ => rfl
  | 2, _ => rfl
  | 3, _ => rfl
  | 4, _ => rfl
  | 5, _ => rfl
  | 6, _ => rfl
  | 7, _ => rfl
theorem mixW_set (x h : W8) : ∀ m : Fin 8, (mixW x h m.val).set m.val (addW (x.l.getD m.val 0) (h.l.getD m.val 0)) = mixW x h (m.val + 1) := by
  rintro ⟨m, hm⟩
  match m, hm with
  | 0, _ => rfl
  | 1, _ => rfl
  | 2, _ => rfl
  | 3, _ => rfl
  | 4, _ => rfl
  | 5, _ => rfl
  | 6, _ => rfl
  | 7, _ => rfl
theorem keyW_len : keyW.length = 64 := rfl
theorem take_spec (h : W8) (b : List Int) (hl : b.length = 64) (hb : ByteL b) (H : Hp) : ACall Tryz.prog 122 [.agg (encW h.l), .sl (encY b)] H (IsR H (.agg (encW (takeW h b).l))) := by
  have hwl := encW_len (wordsU b 64)
  rw [wordsU_len] at hwl
  have hsz : (Tryz.prog.info? 121).map (·.size) = some (encW (takeW h b).l).length := by kernel_rfl
  refine UCall (n := 92) (H0 := H) (objs := []) Tryz.func122 (by kernel_rfl) rfl (by rw [Tryz.ntmps122]; rfl) .nil <| ?_
  refine Q.rg <| S.dd <| D.box rfl rfl rfl fun p2 => S.dd <| D.al z121 rfl rfl rfl fun p4 => Q.nt <| ?_
  refine S.cutA (fun p : Nat × Nat × Nat × Nat => [(6, .ptr p.2.2.1 0), (5, .ptr p.2.1 0), (4, .ptr p.1 0), (2, .ptr p.2.2.2 0)]) (fun p => [(p.2.2.1, .box 121 (encW h.l)), (p.2.1, .box 151 (encW (wordsU b 64))), (p.1, .box 121 (encW [0, 0, 0, 0, 0, 0, 0, 0])), (p.2.2.2, .box 121 (encW h.l))]) (fun _ => True) ?_ ?_
  refine' UW.drawk2 (by kernel_rfl) [1] [0, 1, 0, 0, 0, 27, 63] [some 14, some 15, some 16, none, none, none, none] [some (14, _), some (15, _), some (16, _), none, none, none, none] [3, 4, 5, 6] [4, 3, 5, 6] [] rfl (by decide) (by decide) (by decide) (by decide) (QAll.free (by decide) rfl rfl ?q0x0_0 (QAll.free (by decide) rfl rfl ?q0x0_1 (QAll.kept (by decide) rfl rfl ?q0x0_2 (QAll.skip (QAll.skip (QAll.skip (QAll.skip QAll.nil))))))) ?q0x0_k ?q0x0_k2
  case q0x0_0 => (intro _; exact Z.mv rfl)
  case q0x0_1 => (intro _; exact Z.call rfl rfl (fun _ => words_spec b hl hb _))
  case q0x0_2 => (intro _ hK; exact Z.kw 0 hK ty121 rfl rfl rfl)
  refine CH.cons rfl rfl (by decide) ?_ (.c 1 rfl .n)
  refine D.al z151 rfl rfl rfl fun p5 => ?_
  refine CH.cons rfl rfl (by decide) ?_ (.c 2 rfl .n)
  refine D.al z121 rfl rfl rfl fun p6 => ?_
  refine CH.cons0 rfl rfl ?_ (.c 3 rfl .n)
  refine D.stw 1 ty151 rfl rfl rfl rfl (encW_cell _) hwl rfl rfl fun _ => ?_
  refine CH.cons0 rfl rfl ?_ (.c 3 rfl .n)
  refine D.st 0 ty121 rfl rfl rfl rfl rfl rfl rfl rfl fun _ => ?_
  refine CH.nil ?_ (.c 3 rfl .n)
  simp only [app, finL]
  refine S.finA (p4, p5, p6, p2) ⟨rfl, rfl, rfl, rfl, trivial⟩ (.refl _) trivial
  refine CH.cons rfl rfl (by decide) ?_ (.c 1 rfl .n)
  refine D.al z121 rfl rfl rfl fun p6 => ?_
  refine CH.cons rfl rfl (by decide) ?_ (.c 2 rfl .n)
  refine D.al z151 rfl rfl rfl fun p5 => ?_
  refine CH.cons0 rfl rfl ?_ (.c 3 rfl .n)
  refine D.stw 0 ty151 rfl rfl rfl rfl (encW_cell _) hwl rfl rfl fun _ => ?_
  refine CH.cons0 rfl rfl ?_ (.c 3 rfl .n)
  refine D.st 1 ty121 rfl rfl rfl rfl rfl rfl rfl rfl fun _ => ?_
  refine CH.nil ?_ (.c 3 rfl .n)
  simp only [app, finL]
  refine UQ.swap <| ?_
  refine S.finA (p4, p5, p6, p2) ⟨rfl, rfl, rfl, rfl, trivial⟩ (.refl _) trivial
  rintro ⟨p4, p5, p6, p2⟩ _
  dsimp only
  refine S.sq <| Q.rg <| S.qu (Z.call rfl rfl (fun _ => keys_spec _)) <| Q.mv rfl <| Q.nt <| UW.block <| S.loop (fun j : Nat × W8 => [(18, .v (.int .i64 (j.1 : Int))), (17, .agg (encW keyW)), (6, .ptr p6 0), (5, .ptr p5 0), (4, .ptr p4 0), (2, .ptr p2 0)]) (fun j => [(p6, .box 121 (encW j.2.l)), (p5, .box 151 (encW (wordsU b 64))), (p4, .box 121 (encW [0, 0, 0, 0, 0, 0, 0, 0])), (p2, .box 121 (encW h.l))]) (fun j => j.1 ≤ 64 ∧ j.2 = roundsW (wordsU b 64) h j.1) (fun j => 64 - j.1) (0, h) ⟨Nat.zero_le _, rfl⟩ ⟨rfl, rfl, rfl, rfl, rfl, rfl, trivial⟩ (.refl _) <| ?_
  rintro ⟨j, x⟩ ⟨hj, hx⟩
  dsimp only at hj hx ⊢
  by_cases hlt : j < 64
  · have hk := encW_get keyW j (by rw [keyW_len]; exact hlt)
    have hw := ldF (wordsU b 64) 64 (j : Int) j rfl (by rw [wordsU_len]; exact hlt) (by rw [wordsU_len]; decide)
    rw [fillW_full _ _ (wordsU_len b 64)] at hw
    refine Q.rg <| Q.bi rfl rfl rfl <| Q.nt <| S.sq <| S.cT rfl (decide_eq_true (by omega)) <| UW.skip <| UQ.then <| S.sq <| UW.block <| Q.rg <| Q.mv rfl <| S.qu (Z.xar ar151 ty119 rfl rfl (by omega) (by omega) hk) <| Q.as rfl <| Q.as rfl <| Q.nt <| S.sq <| ?_
    refine' UW.draw' (by kernel_rfl) [0, 1, 0, 4, 3, 31] [some 22, some 23, some 24, some 25, some 9, some 10] [some (22, _), some (23, _), some (24, _), some (25, _), some (9, _), some (10, _)] [] [1, 3] rfl (by decide) (by decide) (QAll.free (by decide) rfl rfl ?q2x0_0 (QAll.held (by decide) rfl rfl ?q2x0_1 (QAll.free (by decide) rfl rfl ?q2x0_2 (QAll.held (by decide) rfl rfl ?q2x0_3 (QAll.free (by decide) rfl rfl ?q2x0_4 (QAll.free (by decide) rfl rfl ?q2x0_5 QAll.nil)))))) ?q2x0_k
    case q2x0_0 => (intro _; exact Z.iar ar121 rfl rfl (by omega) (by omega))
    case q2x0_1 => exact Z.ldc 0 ty119 rfl rfl rfl
    case q2x0_2 => (intro _; exact Z.iar ar121 rfl rfl (by omega) (by omega))
    case q2x0_3 => exact Z.ldc 0 ty119 rfl rfl rfl
    case q2x0_4 => (intro _; exact Z.as rfl)
    case q2x0_5 => (intro _; exact Z.as rfl)
    refine CH.nil <| ?_
    simp only [app, finL]
    refine UQ.then <| S.sq <| ?_
    refine' UW.draw' (by kernel_rfl) [0, 1, 0, 4, 15, 0, 0, 64, 224, 0, 512, 0, 2048, 7680, 16352, 32767, 0, 131071, 0, 262144, 786432, 2097151, 4194303] [some 26, some 27, some 28, some 29, some 30, some 31, some 32, some 33, some 34, some 35, some 36, some 37, some 38, some 39, some 40, some 41, some 42, some 43, some 44, some 45, some 46, some 47, some 11] [some (26, _), some (27, _), some (28, _), some (29, _), some (30, _), some (31, _), some (32, _), some (33, _), some (34, _), some (35, _), some (36, _), some (37, _), some (38, _), some (39, _), some (40, _), some (41, _), some (42, _), some (43, _), some (44, _), some (45, _), some (46, _), some (47, _), some (11, _)] [] [1, 7, 12, 20] rfl (by decide) (by decide) (QAll.free (by decide) rfl rfl ?q2x1_0 (QAll.held (by decide) rfl rfl ?q2x1_1 (QAll.free (by decide) rfl rfl ?q2x1_2 (QAll.free (by decide) rfl rfl ?q2x1_3 (QAll.free (by decide) rfl rfl ?q2x1_4 (QAll.free (by decide) rfl rfl ?q2x1_5 (QAll.free (by decide) rfl rfl ?q2x1_6 (QAll.held (by decide) rfl rfl ?q2x1_7 (QAll.free (by decide) rfl rfl ?q2x1_8 (QAll.free (by decide) rfl rfl ?q2x1_9 (QAll.free (by decide) rfl rfl ?q2x1_10 (QAll.free (by decide) rfl rfl ?q2x1_11 (QAll.held (by decide) rfl rfl ?q2x1_12 (QAll.free (by decide) rfl rfl ?q2x1_13 (QAll.free (by decide) rfl rfl ?q2x1_14 (QAll.free (by decide) rfl rfl ?q2x1_15 (QAll.free (by decide) rfl rfl ?q2x1_16 (QAll.free (by decide) rfl rfl ?q2x1_17 (QAll.free (by decide) rfl rfl ?q2x1_18 (QAll.free (by decide) rfl rfl ?q2x1_19 (QAll.held (by decide) rfl rfl ?q2x1_20 (QAll.free (by decide) rfl rfl ?q2x1_21 (QAll.free (by decide) rfl rfl ?q2x1_22 QAll.nil))))))))))))))))))))))) ?q2x1_k
    case q2x1_0 => (intro _; exact Z.iar ar121 rfl rfl (by omega) (by omega))
    case q2x1_1 => exact Z.ldc 0 ty119 rfl rfl rfl
    case q2x1_2 => (intro _; exact Z.mv rfl)
    case q2x1_3 => (intro _; exact Z.call rfl rfl (fun _ => great_spec _ _ _ _ (by omega) (by omega) (by omega) _))
    case q2x1_4 => (intro _; exact Z.wadd rfl rfl)
    case q2x1_5 => (intro _; exact Z.mv rfl)
    case q2x1_6 => (intro _; exact Z.iar ar121 rfl rfl (by omega) (by omega))
    case q2x1_7 => exact Z.ldc 0 ty119 rfl rfl rfl
    case q2x1_8 => (intro _; exact Z.wand rfl rfl)
    case q2x1_9 => (intro _; exact Z.mv rfl)
    case q2x1_10 => (intro _; exact Z.wnot rfl)
    case q2x1_11 => (intro _; exact Z.iar ar121 rfl rfl (by omega) (by omega))
    case q2x1_12 => exact Z.ldc 0 ty119 rfl rfl rfl
    case q2x1_13 => (intro _; exact Z.wand rfl rfl)
    case q2x1_14 => (intro _; exact Z.wxor rfl rfl)
    case q2x1_15 => (intro _; exact Z.wadd rfl rfl)
    case q2x1_16 => (intro _; exact Z.mv rfl)
    case q2x1_17 => (intro _; exact Z.wadd rfl rfl)
    case q2x1_18 => (intro _; exact Z.mv rfl)
    case q2x1_19 => (intro _; exact Z.iar ar151 rfl rfl (by omega) (by omega))
    case q2x1_20 => exact Z.ldc 1 ty119 rfl rfl hw
    case q2x1_21 => (intro _; exact Z.wadd rfl rfl)
    case q2x1_22 => (intro _; exact Z.as rfl)
    refine CH.nil <| ?_
    simp only [app, finL]
    refine UQ.then <| S.sq <| ?_
    refine' UW.draw' (by kernel_rfl) [0, 1, 0, 0, 8, 28, 0, 0, 128, 448, 1020, 0, 2048, 0, 8192, 30720, 65532, 131071, 262143] [some 48, some 49, some 50, some 51, some 52, some 53, some 54, some 55, some 56, some 57, some 58, some 59, some 60, some 61, some 62, some 63, some 64, some 65, some 12] [some (48, _), some (49, _), some (50, _), some (51, _), some (52, _), some (53, _), some (54, _), some (55, _), some (56, _), some (57, _), some (58, _), some (59, _), some (60, _), some (61, _), some (62, _), some (63, _), some (64, _), some (65, _), some (12, _)] [] [4, 8, 12, 14] rfl (by decide) (by decide) (QAll.free (by decide) rfl rfl ?q2x2_0 (QAll.free (by decide) rfl rfl ?q2x2_1 (QAll.free (by decide) rfl rfl ?q2x2_2 (QAll.free (by decide) rfl rfl ?q2x2_3 (QAll.held (by decide) rfl rfl ?q2x2_4 (QAll.free (by decide) rfl rfl ?q2x2_5 (QAll.free (by decide) rfl rfl ?q2x2_6 (QAll.free (by decide) rfl rfl ?q2x2_7 (QAll.held (by decide) rfl rfl ?q2x2_8 (QAll.free (by decide) rfl rfl ?q2x2_9 (QAll.free (by decide) rfl rfl ?q2x2_10 (QAll.free (by decide) rfl rfl ?q2x2_11 (QAll.held (by decide) rfl rfl ?q2x2_12 (QAll.free (by decide) rfl rfl ?q2x2_13 (QAll.held (by decide) rfl rfl ?q2x2_14 (QAll.free (by decide) rfl rfl ?q2x2_15 (QAll.free (by decide) rfl rfl ?q2x2_16 (QAll.free (by decide) rfl rfl ?q2x2_17 (QAll.free (by decide) rfl rfl ?q2x2_18 QAll.nil))))))))))))))))))) ?q2x2_k
    case q2x2_0 => (intro _; exact Z.mv rfl)
    case q2x2_1 => (intro _; exact Z.call rfl rfl (fun _ => great_spec _ _ _ _ (by omega) (by omega) (by omega) _))
    case q2x2_2 => (intro _; exact Z.mv rfl)
    case q2x2_3 => (intro _; exact Z.iar ar121 rfl rfl (by omega) (by omega))
    case q2x2_4 => exact Z.ldc 0 ty119 rfl rfl rfl
    case q2x2_5 => (intro _; exact Z.wand rfl rfl)
    case q2x2_6 => (intro _; exact Z.mv rfl)
    case q2x2_7 => (intro _; exact Z.iar ar121 rfl rfl (by omega) (by omega))
    case q2x2_8 => exact Z.ldc 0 ty119 rfl rfl rfl
    case q2x2_9 => (intro _; exact Z.wand rfl rfl)
    case q2x2_10 => (intro _; exact Z.wxor rfl rfl)
    case q2x2_11 => (intro _; exact Z.iar ar121 rfl rfl (by omega) (by omega))
    case q2x2_12 => exact Z.ldc 0 ty119 rfl rfl rfl
    case q2x2_13 => (intro _; exact Z.iar ar121 rfl rfl (by omega) (by omega))
    case q2x2_14 => exact Z.ldc 0 ty119 rfl rfl rfl
    case q2x2_15 => (intro _; exact Z.wand rfl rfl)
    case q2x2_16 => (intro _; exact Z.wxor rfl rfl)
    case q2x2_17 => (intro _; exact Z.wadd rfl rfl)
    case q2x2_18 => (intro _; exact Z.as rfl)
    refine CH.nil <| ?_
    simp only [app, finL]
    refine UQ.then <| S.sq <| ?_
    refine' UW.draw' (by kernel_rfl) [0, 0, 3] [some 66, some 67, none] [some (66, _), some (67, _), none] [2] [0, 1] rfl (by decide) (by decide) (QAll.held (by decide) rfl rfl ?q2x3_0 (QAll.held (by decide) rfl rfl ?q2x3_1 (QAll.skip QAll.nil))) ?q2x3_k
    case q2x3_0 => exact Z.slb 0 ar121 rfl rfl (.lo rfl) (by decide) (by decide) (by decide)
    case q2x3_1 => exact Z.slb 0 ar121 rfl rfl (.hi rfl) (by decide) (by decide) (by decide)
    refine CH.cons rfl rfl (by decide) <| D.cpb (m := 7) (objs' := [(p6, .box 121 (encW [x.a, x.a, x.b, x.c, x.d, x.e, x.f, x.g])), (p5, .box 151 (encW (wordsU b 64))), (p4, .box 121 (encW [0, 0, 0, 0, 0, 0, 0, 0])), (p2, .box 121 (encW h.l))]) 0 sl155 rfl rfl rfl rfl (by show (0 + 1 + 7 : Nat) ≤ 8; decide) (by show (0 + 0 + 7 : Nat) ≤ 8; decide) rfl <| ?_
    refine CH.nil <| ?_
    simp only [app, finL]
    refine UQ.then <| Q.rg <| S.qu (Z.iar ar121 rfl rfl (by omega) (by omega)) <| Q.lc 0 ty119 rfl rfl rfl <| Q.mv rfl <| S.qu (Z.wadd rfl rfl) <| S.qu (Z.iar ar121 rfl rfl (by omega) (by omega)) <| S.s <| D.st 0 ty119 rfl rfl rfl rfl rfl rfl rfl rfl fun _ => Q.nt <| S.rg <| Q.mv rfl <| Q.mv rfl <| S.qu (Z.wadd rfl rfl) <| S.qu (Z.iar ar121 rfl rfl (by omega) (by omega)) <| S.s <| D.st 0 ty119 rfl rfl rfl rfl rfl rfl rfl rfl fun _ => US.nil <| UQ.blockN <| UQ.then <| S.rg <| S.qu (Z.add (r := ((j + 1 : Nat) : Int)) rfl rfl (IntWalk.i64_in _ (by omega))) <| Q.mv rfl <| US.nil <| ?_
    refine S.back (j + 1, roundW x (keyW.getD j 0) ((wordsU b 64).getD j 0)) ⟨rfl, rfl, rfl, rfl, rfl, rfl, trivial⟩ (.refl _) ?_ (by omega)
    exact ⟨by show j + 1 ≤ 64; omega, by show roundW x _ _ = _; rw [hx]; rfl⟩
  · have hj64 : j = 64 := by omega
    subst hj64
    refine Q.rg <| Q.bi rfl rfl rfl <| Q.nt <| S.sq <| S.cF rfl (decide_eq_false (by omega)) <| UW.exit <| UQ.pass <| UQ.pass <| UQ.here <| UQ.then <| S.sq <| Q.rg <| Q.mv rfl <| Q.nt <| UW.block <| S.loop (fun m : Nat => [(79, .v (.int .i64 (m : Int))), (6, .ptr p6 0), (4, .ptr p4 0), (2, .ptr p2 0)]) (fun m => [(p6, .box 121 (encW (mixW x h m))), (p4, .box 121 (encW [0, 0, 0, 0, 0, 0, 0, 0])), (p2, .box 121 (encW h.l))]) (fun m => m ≤ 8) (fun m => 8 - m) 0 (Nat.zero_le _) ⟨rfl, rfl, rfl, rfl, trivial⟩ (by exact .cons_cons _ (.cons _ (.refl _))) <| ?_
    intro m hm
    by_cases hlt8 : m < 8
    · have e0 : 0 + (m : Int).toNat * 1 = m := by omega
      have h84 := encW_get (mixW x h m) m (by rw [mixW_len]; exact hlt8)
      rw [mixW_at x h ⟨m, hlt8⟩] at h84
      have h87 := encW_get h.l m hlt8
      have hset := setO_one (encW (mixW x h m)) m (.v (.int .u32 (addW (x.l.getD m 0) (h.l.getD m 0)))) (by rw [encW_len, mixW_len]; exact hlt8)
      rw [encW_set, mixW_set x h ⟨m, hlt8⟩] at hset
      refine Q.rg <| Q.bi rfl rfl rfl <| Q.nt <| S.sq <| S.cT rfl (decide_eq_true (by omega)) <| UW.skip <| UQ.then <| S.sq <| UW.block <| Q.rg <| Q.mv rfl <| Q.as rfl <| Q.nt <| ?_
      refine' UW.draw' (by kernel_rfl) [0, 1, 3, 0, 8, 24, 63, 127, 255] [some 82, some 83, some 84, some 85, some 86, some 87, some 88, some 89, none] [some (82, _), some (83, _), some (84, _), some (85, _), some (86, _), some (87, _), some (88, _), some (89, _), none] [8] [2, 5] rfl (by decide) (by decide) (QAll.free (by decide) rfl rfl ?q4x0_0 (QAll.free (by decide) rfl rfl ?q4x0_1 (QAll.held (by decide) rfl rfl ?q4x0_2 (QAll.free (by decide) rfl rfl ?q4x0_3 (QAll.free (by decide) rfl rfl ?q4x0_4 (QAll.held (by decide) rfl rfl ?q4x0_5 (QAll.free (by decide) rfl rfl ?q4x0_6 (QAll.free (by decide) rfl rfl ?q4x0_7 (QAll.skip QAll.nil))))))))) ?q4x0_k
      case q4x0_0 => (intro _; exact Z.mv rfl)
      case q4x0_1 => (intro _; exact Z.iar ar121 rfl rfl (by omega) (by omega))
      case q4x0_2 => exact Z.ldc 0 ty119 rfl rfl (by rw [e0]; exact h84)
      case q4x0_3 => (intro _; exact Z.mv rfl)
      case q4x0_4 => (intro _; exact Z.iar ar121 rfl rfl (by omega) (by omega))
      case q4x0_5 => exact Z.ldc 2 ty119 rfl rfl (by rw [e0]; exact h87)
      case q4x0_6 => (intro _; exact Z.wadd rfl rfl)
      case q4x0_7 => (intro _; exact Z.iar ar121 rfl rfl (by omega) (by omega))
      refine CH.cons0 rfl rfl <| D.st 0 ty119 rfl rfl rfl rfl rfl rfl (by rw [e0]; exact hset) rfl fun _ => ?_
      refine CH.nil <| ?_
      simp only [app, finL]
      refine UQ.blockN <| UQ.then <| S.rg <| S.qu (Z.add (r := ((m + 1 : Nat) : Int)) rfl rfl (IntWalk.i64_in _ (by omega))) <| Q.mv rfl <| US.nil <| ?_
      refine S.back _ ⟨rfl, rfl, rfl, rfl, trivial⟩ (.refl _) (by omega) (by omega)
    · have hm8 : m = 8 := by omega
      subst hm8
      have hfin : mixW x h 8 = (takeW h b).l := by
        rw [hx]
        unfold takeW
        generalize roundsW (wordsU b 64) h 64 = y
        rfl
      rw [hfin]
      refine Q.rg <| Q.bi rfl rfl rfl <| Q.nt <| S.sq <| S.cF rfl (decide_eq_false (by omega)) <| UW.exit <| UQ.pass <| UQ.pass <| UQ.here <| UQ.then <| Q.rg <| S.qu (Z.ldw 0 ty121 rfl rfl rfl) <| S.s <| D.st 1 ty121 rfl rfl rfl rfl rfl rfl rfl rfl fun _ => Q.nt <| UW.ret <| S.rtR (fun hd => res_cella (k := 1) hd rfl rfl rfl Tryz.underlying121 (by assumption)) <| ?_
      rfl
end Go.Proofs.YtgmfgmbgmjbdhaaGreatDoor
end
