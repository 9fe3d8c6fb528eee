/- The digest takes a block. -/
import Derived.Test.YtgmfgmbgmjbdhaaGreatDoorKx27
namespace Go.Proofs.YtgmfgmbgmjbdhaaGreatDoor
open Go Go.RowKit Go.Eng
set_option linter.unusedSimpArgs false
set_option linter.unusedVariables false
set_option maxRecDepth 100000
set_option maxHeartbeats 4000000
structure W8 where
  a : Int
  b : Int
  c : Int
  d : Int
  e : Int
  f : Int
  g : Int
  h : Int
def W8.l (x : W8) : List Int := [x.a, x.b, x.c, x.d, x.e, x.f, x.g, x.h]
def t1W (x : W8) (k w : Int) : Int := addW (addW (addW (addW x.h (greatW x.e 6 11 25)) (xorW (andW x.e x.f) (andW (notW x.e) x.g))) k) w
def t2W (x : W8) : Int := addW (greatW x.a 2 13 22) (xorW (xorW (andW x.a x.b) (andW x.a x.c)) (andW x.b x.c))
def roundW (x : W8) (k w : Int) : W8 := ⟨addW (t1W x k w) (t2W x), x.a, x.b, x.c, addW x.d (t1W x k w), x.e, x.f, x.g⟩
def roundsW (ws : List Int) (x : W8) : Nat → W8
  | 0 => x
  | t + 1 => roundW (roundsW ws x t) (keyW.getD t 0) (ws.getD t 0)
def plusW (x h : W8) : W8 := ⟨addW x.a h.a, addW x.b h.b, addW x.c h.c, addW x.d h.d, addW x.e h.e, addW x.f h.f, addW x.g h.g, addW x.h h.h⟩
def takeW (h : W8) (b : List Int) : W8 := plusW (roundsW (wordsU b 64) h 64) h
/-- The first m of the sums, the rest as it was. -/
def mixW (x h : W8) (m : Nat) : List Int := (plusW x h).l.take m ++ x.l.drop m
theorem mixW_len (x h : W8) (m : Nat) : (mixW x h m).length = 8 := by unfold mixW; rw [List.length_append, List.length_take, List.length_drop]; show min m 8 + (8 - m) = 8; omega
theorem mixW_at (x h : W8) : ∀ m : Fin 8, (mixW x h m.val).getD m.val 0 = x.l.getD m.val 0 := by
  rintro ⟨m, hm⟩
  match m, hm with
  | 0, _ => rfl
  | 1, _ => rfl
  | 2, _ => rfl
  | 3, _ => rfl
  | 4, _ => rfl
  | 5, _ => rfl
  | 6, _ => rfl
  | 7, _ => rfl
theorem mixW_set (x h : W8) : ∀ m : Fin 8, (mixW x h m.val).set m.val (addW (x.l.getD m.val 0) (h.l.getD m.val 0)) = mixW x h (m.val + 1) := by
  rintro ⟨m, hm⟩
  match m, hm with
  | 0, _ => rfl
  | 1, _ => rfl
  | 2, _ => rfl
  | 3, _ => rfl
  | 4, _ => rfl
  | 5, _ => rfl
  | 6, _ => rfl
  | 7, _ => rfl
theorem keyW_len : keyW.length = 64 := rfl
theorem take_spec (h : W8) (b : List Int) (hl : b.length = 64) (hb : ByteL b) (H : Hp) : ACall Tryz.prog 122 [.agg (encW h.l), .sl (encY b)] H (IsR H (.agg (encW (takeW h b).l))) := by
  have hwl := encW_len (wordsU b 64)
  rw [wordsU_len] at hwl
  have hsz : (Tryz.prog.info? 121).map (·.size) = some (encW (takeW h b).l).length := by kernel_rfl
  refine UCall (n := 92) (H0 := H) (objs := []) Tryz.func122 (by kernel_rfl) rfl (by rw [Tryz.ntmps122]; rfl) .nil <| ?_
  refine Q.rg <| S.dd <| D.box rfl rfl rfl fun p2 => S.dd <| D.al z121 rfl rfl rfl fun p4 => Q.nt <| ?_
  refine S.cutA (fun p : Nat × Nat × Nat × Nat => [(6, .ptr p.2.2.1 0), (5, .ptr p.2.1 0), (4, .ptr p.1 0), (2, .ptr p.2.2.2 0)]) (fun p => [(p.2.2.1, .box 121 (encW h.l)), (p.2.1, .box 151 (encW (wordsU b 64))), (p.1, .box 121 (encW [0, 0, 0, 0, 0, 0, 0, 0])), (p.2.2.2, .box 121 (encW h.l))]) (fun _ => True) ?_ ?_
  refine' UW.drawk2 (by kernel_rfl) [1] [0, 1, 0, 0, 0, 27, 63] [some 14, some 15, some 16, none, none, none, none] [some (14, _), some (15, _), some (16, _), none, none, none, none] [3, 4, 5, 6] [4, 3, 5, 6] [] rfl (by decide) (by decide) (by decide) (by decide) (QAll.free (by decide) rfl rfl ?q0x0_0 (QAll.free (by decide) rfl rfl ?q0x0_1 (QAll.kept (by decide) rfl rfl ?q0x0_2 (QAll.skip (QAll.skip (QAll.skip (QAll.skip QAll.nil))))))) ?q0x0_k ?q0x0_k2
  case q0x0_0 => (intro _; exact Z.mv rfl)
  case q0x0_1 => (intro _; exact Z.call rfl rfl (fun _ => words_spec b hl hb _))
  case q0x0_2 => (intro _ hK; exact Z.kw 0 hK ty121 rfl rfl rfl)
  refine CH.cons rfl rfl (by decide) ?_ (.c 1 rfl .n)
  refine D.al z151 rfl rfl rfl fun p5 => ?_
  refine CH.cons rfl rfl (by decide) ?_ (.c 2 rfl .n)
  refine D.al z121 rfl rfl rfl fun p6 => ?_
  refine CH.cons0 rfl rfl ?_ (.c 3 rfl .n)
  refine D.stw 1 ty151 rfl rfl rfl rfl (encW_cell _) hwl rfl rfl fun _ => ?_
  refine CH.cons0 rfl rfl ?_ (.c 3 rfl .n)
  refine D.st 0 ty121 rfl rfl rfl rfl rfl rfl rfl rfl fun _ => ?_
  refine CH.nil ?_ (.c 3 rfl .n)
  simp only [app, finL]
  refine S.finA (p4, p5, p6, p2) ⟨rfl, rfl, rfl, rfl, trivial⟩ (.refl _) trivial
  refine CH.cons rfl rfl (by decide) ?_ (.c 1 rfl .n)
  refine D.al z121 rfl rfl rfl fun p6 => ?_
  refine CH.cons rfl rfl (by decide) ?_ (.c 2 rfl .n)
  refine D.al z151 rfl rfl rfl fun p5 => ?_
  refine CH.cons0 rfl rfl ?_ (.c 3 rfl .n)
  refine D.stw 0 ty151 rfl rfl rfl rfl (encW_cell _) hwl rfl rfl fun _ => ?_
  refine CH.cons0 rfl rfl ?_ (.c 3 rfl .n)
  refine D.st 1 ty121 rfl rfl rfl rfl rfl rfl rfl rfl fun _ => ?_
  refine CH.nil ?_ (.c 3 rfl .n)
  simp only [app, finL]
  refine UQ.swap <| ?_
  refine S.finA (p4, p5, p6, p2) ⟨rfl, rfl, rfl, rfl, trivial⟩ (.refl _) trivial
  rintro ⟨p4, p5, p6, p2⟩ _
  dsimp only
  refine S.sq <| Q.rg <| S.qu (Z.call rfl rfl (fun _ => keys_spec _)) <| Q.mv rfl <| Q.nt <| UW.block <| S.loop (fun j : Nat × W8 => [(18, .v (.int .i64 (j.1 : Int))), (17, .agg (encW keyW)), (6, .ptr p6 0), (5, .ptr p5 0), (4, .ptr p4 0), (2, .ptr p2 0)]) (fun j => [(p6, .box 121 (encW j.2.l)), (p5, .box 151 (encW (wordsU b 64))), (p4, .box 121 (encW [0, 0, 0, 0, 0, 0, 0, 0])), (p2, .box 121 (encW h.l))]) (fun j => j.1 ≤ 64 ∧ j.2 = roundsW (wordsU b 64) h j.1) (fun j => 64 - j.1) (0, h) ⟨Nat.zero_le _, rfl⟩ ⟨rfl, rfl, rfl, rfl, rfl, rfl, trivial⟩ (.refl _) <| ?_
  rintro ⟨j, x⟩ ⟨hj, hx⟩
  dsimp only at hj hx ⊢
  by_cases hlt : j < 64
  · have hk := encW_get keyW j (by rw [keyW_len]; exact hlt)
    have hw := ldF (wordsU b 64) 64 (j : Int) j rfl (by rw [wordsU_len]; exact hlt) (by rw [wordsU_len]; decide)
    rw [fillW_full _ _ (wordsU_len b 64)] at hw
    refine Q.rg <| Q.bi rfl rfl rfl <| Q.nt <| S.sq <| S.cT rfl (decide_eq_true (by omega)) <| UW.skip <| UQ.then <| S.sq <| UW.block <| Q.rg <| Q.mv rfl <| S.qu (Z.xar ar151 ty119 rfl rfl (by omega) (by omega) hk) <| Q.as rfl <| Q.as rfl <| Q.nt <| S.sq <| ?_
    refine' UW.draw' (by kernel_rfl) [0, 1, 0, 4, 3, 31] [some 22, some 23, some 24, some 25, some 9, some 10] [some (22, _), some (23, _), some (24, _), some (25, _), some (9, _), some (10, _)] [] [1, 3] rfl (by decide) (by decide) (QAll.free (by decide) rfl rfl ?q2x0_0 (QAll.held (by decide) rfl rfl ?q2x0_1 (QAll.free (by decide) rfl rfl ?q2x0_2 (QAll.held (by decide) rfl rfl ?q2x0_3 (QAll.free (by decide) rfl rfl ?q2x0_4 (QAll.free (by decide) rfl rfl ?q2x0_5 QAll.nil)))))) ?q2x0_k
    case q2x0_0 => (intro _; exact Z.iar ar121 rfl rfl (by omega) (by omega))
    case q2x0_1 => exact Z.ldc 0 ty119 rfl rfl rfl
    case q2x0_2 => (intro _; exact Z.iar ar121 rfl rfl (by omega) (by omega))
    case q2x0_3 => exact Z.ldc 0 ty119 rfl rfl rfl
    case q2x0_4 => (intro _; exact Z.as rfl)
    case q2x0_5 => (intro _; exact Z.as rfl)
    refine CH.nil <| ?_
    simp only [app, finL]
    refine UQ.then <| S.sq <| ?_
    refine' UW.draw' (by kernel_rfl) [0, 1, 0, 4, 15, 0, 0, 64, 224, 0, 512, 0, 2048, 7680, 16352, 32767, 0, 131071, 0, 262144, 786432, 2097151, 4194303] [some 26, some 27, some 28, some 29, some 30, some 31, some 32, some 33, some 34, some 35, some 36, some 37, some 38, some 39, some 40, some 41, some 42, some 43, some 44, some 45, some 46, some 47, some 11] [some (26, _), some (27, _), some (28, _), some (29, _), some (30, _), some (31, _), some (32, _), some (33, _), some (34, _), some (35, _), some (36, _), some (37, _), some (38, _), some (39, _), some (40, _), some (41, _), some (42, _), some (43, _), some (44, _), some (45, _), some (46, _), some (47, _), some (11, _)] [] [1, 7, 12, 20] rfl (by decide) (by decide) (QAll.free (by decide) rfl rfl ?q2x1_0 (QAll.held (by decide) rfl rfl ?q2x1_1 (QAll.free (by decide) rfl rfl ?q2x1_2 (QAll.free (by decide) rfl rfl ?q2x1_3 (QAll.free (by decide) rfl rfl ?q2x1_4 (QAll.free (by decide) rfl rfl ?q2x1_5 (QAll.free (by decide) rfl rfl ?q2x1_6 (QAll.held (by decide) rfl rfl ?q2x1_7 (QAll.free (by decide) rfl rfl ?q2x1_8 (QAll.free (by decide) rfl rfl ?q2x1_9 (QAll.free (by decide) rfl rfl ?q2x1_10 (QAll.free (by decide) rfl rfl ?q2x1_11 (QAll.held (by decide) rfl rfl ?q2x1_12 (QAll.free (by decide) rfl rfl ?q2x1_13 (QAll.free (by decide) rfl rfl ?q2x1_14 (QAll.free (by decide) rfl rfl ?q2x1_15 (QAll.free (by decide) rfl rfl ?q2x1_16 (QAll.free (by decide) rfl rfl ?q2x1_17 (QAll.free (by decide) rfl rfl ?q2x1_18 (QAll.free (by decide) rfl rfl ?q2x1_19 (QAll.held (by decide) rfl rfl ?q2x1_20 (QAll.free (by decide) rfl rfl ?q2x1_21 (QAll.free (by decide) rfl rfl ?q2x1_22 QAll.nil))))))))))))))))))))))) ?q2x1_k
    case q2x1_0 => (intro _; exact Z.iar ar121 rfl rfl (by omega) (by omega))
    case q2x1_1 => exact Z.ldc 0 ty119 rfl rfl rfl
    case q2x1_2 => (intro _; exact Z.mv rfl)
    case q2x1_3 => (intro _; exact Z.call rfl rfl (fun _ => great_spec _ _ _ _ (by omega) (by omega) (by omega) _))
    case q2x1_4 => (intro _; exact Z.wadd rfl rfl)
    case q2x1_5 => (intro _; exact Z.mv rfl)
    case q2x1_6 => (intro _; exact Z.iar ar121 rfl rfl (by omega) (by omega))
    case q2x1_7 => exact Z.ldc 0 ty119 rfl rfl rfl
    case q2x1_8 => (intro _; exact Z.wand rfl rfl)
    case q2x1_9 => (intro _; exact Z.mv rfl)
    case q2x1_10 => (intro _; exact Z.wnot rfl)
    case q2x1_11 => (intro _; exact Z.iar ar121 rfl rfl (by omega) (by omega))
    case q2x1_12 => exact Z.ldc 0 ty119 rfl rfl rfl
    case q2x1_13 => (intro _; exact Z.wand rfl rfl)
    case q2x1_14 => (intro _; exact Z.wxor rfl rfl)
    case q2x1_15 => (intro _; exact Z.wadd rfl rfl)
    case q2x1_16 => (intro _; exact Z.mv rfl)
    case q2x1_17 => (intro _; exact Z.wadd rfl rfl)
    case q2x1_18 => (intro _; exact Z.mv rfl)
    case q2x1_19 => (intro _; exact Z.iar ar151 rfl rfl (by omega) (by omega))
    case q2x1_20 => exact Z.ldc 1 ty119 rfl rfl hw
    case q2x1_21 => (intro _; exact Z.wadd rfl rfl)
    case q2x1_22 => (intro _; exact Z.as rfl)
    refine CH.nil <| ?_
    simp only [app, finL]
    refine UQ.then <| S.sq <| ?_
    refine' UW.draw' (by kernel_rfl) [0, 1, 0, 0, 8, 28, 0, 0, 128, 448, 1020, 0, 2048, 0, 8192, 30720, 65532, 131071, 262143] [some 48, some 49, some 50, some 51, some 52, some 53, some 54, some 55, some 56, some 57, some 58, some 59, some 60, some 61, some 62, some 63, some 64, some 65, some 12] [some (48, _), some (49, _), some (50, _), some (51, _), some (52, _), some (53, _), some (54, _), some (55, _), some (56, _), some (57, _), some (58, _), some (59, _), some (60, _), some (61, _), some (62, _), some (63, _), some (64, _), some (65, _), some (12, _)] [] [4, 8, 12, 14] rfl (by decide) (by decide) (QAll.free (by decide) rfl rfl ?q2x2_0 (QAll.free (by decide) rfl rfl ?q2x2_1 (QAll.free (by decide) rfl rfl ?q2x2_2 (QAll.free (by decide) rfl rfl ?q2x2_3 (QAll.held (by decide) rfl rfl ?q2x2_4 (QAll.free (by decide) rfl rfl ?q2x2_5 (QAll.free (by decide) rfl rfl ?q2x2_6 (QAll.free (by decide) rfl rfl ?q2x2_7 (QAll.held (by decide) rfl rfl ?q2x2_8 (QAll.free (by decide) rfl rfl ?q2x2_9 (QAll.free (by decide) rfl rfl ?q2x2_10 (QAll.free (by decide) rfl rfl ?q2x2_11 (QAll.held (by decide) rfl rfl ?q2x2_12 (QAll.free (by decide) rfl rfl ?q2x2_13 (QAll.held (by decide) rfl rfl ?q2x2_14 (QAll.free (by decide) rfl rfl ?q2x2_15 (QAll.free (by decide) rfl rfl ?q2x2_16 (QAll.free (by decide) rfl rfl ?q2x2_17 (QAll.free (by decide) rfl rfl ?q2x2_18 QAll.nil))))))))))))))))))) ?q2x2_k
    case q2x2_0 => (intro _; exact Z.mv rfl)
    case q2x2_1 => (intro _; exact Z.call rfl rfl (fun _ => great_spec _ _ _ _ (by omega) (by omega) (by omega) _))
    case q2x2_2 => (intro _; exact Z.mv rfl)
    case q2x2_3 => (intro _; exact Z.iar ar121 rfl rfl (by omega) (by omega))
    case q2x2_4 => exact Z.ldc 0 ty119 rfl rfl rfl
    case q2x2_5 => (intro _; exact Z.wand rfl rfl)
    case q2x2_6 => (intro _; exact Z.mv rfl)
    case q2x2_7 => (intro _; exact Z.iar ar121 rfl rfl (by omega) (by omega))
    case q2x2_8 => exact Z.ldc 0 ty119 rfl rfl rfl
    case q2x2_9 => (intro _; exact Z.wand rfl rfl)
    case q2x2_10 => (intro _; exact Z.wxor rfl rfl)
    case q2x2_11 => (intro _; exact Z.iar ar121 rfl rfl (by omega) (by omega))
    case q2x2_12 => exact Z.ldc 0 ty119 rfl rfl rfl
    case q2x2_13 => (intro _; exact Z.iar ar121 rfl rfl (by omega) (by omega))
    case q2x2_14 => exact Z.ldc 0 ty119 rfl rfl rfl
    case q2x2_15 => (intro _; exact Z.wand rfl rfl)
    case q2x2_16 => (intro _; exact Z.wxor rfl rfl)
    case q2x2_17 => (intro _; exact Z.wadd rfl rfl)
    case q2x2_18 => (intro _; exact Z.as rfl)
    refine CH.nil <| ?_
    simp only [app, finL]
    refine UQ.then <| S.sq <| ?_
    refine' UW.draw' (by kernel_rfl) [0, 0, 3] [some 66, some 67, none] [some (66, _), some (67, _), none] [2] [0, 1] rfl (by decide) (by decide) (QAll.held (by decide) rfl rfl ?q2x3_0 (QAll.held (by decide) rfl rfl ?q2x3_1 (QAll.skip QAll.nil))) ?q2x3_k
    case q2x3_0 => exact Z.slb 0 ar121 rfl rfl (.lo rfl) (by decide) (by decide) (by decide)
    case q2x3_1 => exact Z.slb 0 ar121 rfl rfl (.hi rfl) (by decide) (by decide) (by decide)
    refine CH.cons rfl rfl (by decide) <| D.cpb (m := 7) (objs' := [(p6, .box 121 (encW [x.a, x.a, x.b, x.c, x.d, x.e, x.f, x.g])), (p5, .box 151 (encW (wordsU b 64))), (p4, .box 121 (encW [0, 0, 0, 0, 0, 0, 0, 0])), (p2, .box 121 (encW h.l))]) 0 sl155 rfl rfl rfl rfl (by show (0 + 1 + 7 : Nat) ≤ 8; decide) (by show (0 + 0 + 7 : Nat) ≤ 8; decide) rfl <| ?_
    refine CH.nil <| ?_
    simp only [app, finL]
    refine UQ.then <| Q.rg <| S.qu (Z.iar ar121 rfl rfl (by omega) (by omega)) <| Q.lc 0 ty119 rfl rfl rfl <| Q.mv rfl <| S.qu (Z.wadd rfl rfl) <| S.qu (Z.iar ar121 rfl rfl (by omega) (by omega)) <| S.s <| D.st 0 ty119 rfl rfl rfl rfl rfl rfl rfl rfl fun _ => Q.nt <| S.rg <| Q.mv rfl <| Q.mv rfl <| S.qu (Z.wadd rfl rfl) <| S.qu (Z.iar ar121 rfl rfl (by omega) (by omega)) <| S.s <| D.st 0 ty119 rfl rfl rfl rfl rfl rfl rfl rfl fun _ => US.nil <| UQ.blockN <| UQ.then <| S.rg <| S.qu (Z.add (r := ((j + 1 : Nat) : Int)) rfl rfl (IntWalk.i64_in _ (by omega))) <| Q.mv rfl <| US.nil <| ?_
    refine S.back (j + 1, roundW x (keyW.getD j 0) ((wordsU b 64).getD j 0)) ⟨rfl, rfl, rfl, rfl, rfl, rfl, trivial⟩ (.refl _) ?_ (by omega)
    exact ⟨by show j + 1 ≤ 64; omega, by show roundW x _ _ = _; rw [hx]; rfl⟩
  · have hj64 : j = 64 := by omega
    subst hj64
    refine Q.rg <| Q.bi rfl rfl rfl <| Q.nt <| S.sq <| S.cF rfl (decide_eq_false (by omega)) <| UW.exit <| UQ.pass <| UQ.pass <| UQ.here <| UQ.then <| S.sq <| Q.rg <| Q.mv rfl <| Q.nt <| UW.block <| S.loop (fun m : Nat => [(79, .v (.int .i64 (m : Int))), (6, .ptr p6 0), (4, .ptr p4 0), (2, .ptr p2 0)]) (fun m => [(p6, .box 121 (encW (mixW x h m))), (p4, .box 121 (encW [0, 0, 0, 0, 0, 0, 0, 0])), (p2, .box 121 (encW h.l))]) (fun m => m ≤ 8) (fun m => 8 - m) 0 (Nat.zero_le _) ⟨rfl, rfl, rfl, rfl, trivial⟩ (by exact .cons_cons _ (.cons _ (.refl _))) <| ?_
    intro m hm
    by_cases hlt8 : m < 8
    · have e0 : 0 + (m : Int).toNat * 1 = m := by omega
      have h84 := encW_get (mixW x h m) m (by rw [mixW_len]; exact hlt8)
      rw [mixW_at x h ⟨m, hlt8⟩] at h84
      have h87 := encW_get h.l m hlt8
      have hset := setO_one (encW (mixW x h m)) m (.v (.int .u32 (addW (x.l.getD m 0) (h.l.getD m 0)))) (by rw [encW_len, mixW_len]; exact hlt8)
      rw [encW_set, mixW_set x h ⟨m, hlt8⟩] at hset
      refine Q.rg <| Q.bi rfl rfl rfl <| Q.nt <| S.sq <| S.cT rfl (decide_eq_true (by omega)) <| UW.skip <| UQ.then <| S.sq <| UW.block <| Q.rg <| Q.mv rfl <| Q.as rfl <| Q.nt <| ?_
      refine' UW.draw' (by kernel_rfl) [0, 1, 3, 0, 8, 24, 63, 127, 255] [some 82, some 83, some 84, some 85, some 86, some 87, some 88, some 89, none] [some (82, _), some (83, _), some (84, _), some (85, _), some (86, _), some (87, _), some (88, _), some (89, _), none] [8] [2, 5] rfl (by decide) (by decide) (QAll.free (by decide) rfl rfl ?q4x0_0 (QAll.free (by decide) rfl rfl ?q4x0_1 (QAll.held (by decide) rfl rfl ?q4x0_2 (QAll.free (by decide) rfl rfl ?q4x0_3 (QAll.free (by decide) rfl rfl ?q4x0_4 (QAll.held (by decide) rfl rfl ?q4x0_5 (QAll.free (by decide) rfl rfl ?q4x0_6 (QAll.free (by decide) rfl rfl ?q4x0_7 (QAll.skip QAll.nil))))))))) ?q4x0_k
      case q4x0_0 => (intro _; exact Z.mv rfl)
      case q4x0_1 => (intro _; exact Z.iar ar121 rfl rfl (by omega) (by omega))
      case q4x0_2 => exact Z.ldc 0 ty119 rfl rfl (by rw [e0]; exact h84)
      case q4x0_3 => (intro _; exact Z.mv rfl)
      case q4x0_4 => (intro _; exact Z.iar ar121 rfl rfl (by omega) (by omega))
      case q4x0_5 => exact Z.ldc 2 ty119 rfl rfl (by rw [e0]; exact h87)
      case q4x0_6 => (intro _; exact Z.wadd rfl rfl)
      case q4x0_7 => (intro _; exact Z.iar ar121 rfl rfl (by omega) (by omega))
      refine CH.cons0 rfl rfl <| D.st 0 ty119 rfl rfl rfl rfl rfl rfl (by rw [e0]; exact hset) rfl fun _ => ?_
      refine CH.nil <| ?_
      simp only [app, finL]
      refine UQ.blockN <| UQ.then <| S.rg <| S.qu (Z.add (r := ((m + 1 : Nat) : Int)) rfl rfl (IntWalk.i64_in _ (by omega))) <| Q.mv rfl <| US.nil <| ?_
      refine S.back _ ⟨rfl, rfl, rfl, rfl, trivial⟩ (.refl _) (by omega) (by omega)
    · have hm8 : m = 8 := by omega
      subst hm8
      have hfin : mixW x h 8 = (takeW h b).l := by
        rw [hx]
        unfold takeW
        generalize roundsW (wordsU b 64) h 64 = y
        rfl
      rw [hfin]
      refine Q.rg <| Q.bi rfl rfl rfl <| Q.nt <| S.sq <| S.cF rfl (decide_eq_false (by omega)) <| UW.exit <| UQ.pass <| UQ.pass <| UQ.here <| UQ.then <| Q.rg <| S.qu (Z.ldw 0 ty121 rfl rfl rfl) <| S.s <| D.st 1 ty121 rfl rfl rfl rfl rfl rfl rfl rfl fun _ => Q.nt <| UW.ret <| S.rtR (fun hd => res_cella (k := 1) hd rfl rfl rfl Tryz.underlying121 (by assumption)) <| ?_
      rfl
theorem block_spec (h : W8) (b : List Int) (hl : b.length = 64) (hb : ByteL b) (H : Hp) : ACall Tryz.prog 126 [.sl (encR h.l), .sl (encY b)] H (IsR H (.sl (encR (takeW h b).l))) := by
  have hhs := encR_sz h.l
  refine UCall (n := 131) (H0 := H) (objs := []) Tryz.func126 (by kernel_rfl) rfl (by rw [Tryz.ntmps126]; rfl) .nil <| ?_
  refine Q.rg <| Q.as rfl <| Q.nt <| Q.rg <| Q.mv rfl <| S.qu (Z.call rfl rfl (fun _ => wordsR_spec b hl hb _)) <| Q.as rfl <| Q.nt <| Q.rg <| S.qu (Z.call rfl rfl (fun _ => keysW_spec _)) <| Q.as rfl <| Q.nt <| Q.rg <| Q.as rfl <| Q.nt <| Q.rg <| Q.mv rfl <| Q.mv rfl <| S.dd <| D.apn row133 rfl rfl (.sl hhs) (by show 8 * 4 ≤ 140737488355328; decide) fun p19 => ?_
  refine Q.as rfl <| Q.nt <| S.sq <| Q.rg <| Q.as rfl <| Q.nt <| UW.block <| S.loop (fun j : Nat × W8 × Nat => [(8, .v (.int .i64 (j.1 : Int))), (7, .own j.2.2 0 8 1), (6, .sl (encR keyW)), (5, .sl (encR (wordsU b 64))), (0, .sl (encR h.l))]) (fun j => [(j.2.2, .row 118 1 (encR j.2.1.l))]) (fun j => j.1 ≤ 64 ∧ j.2.1 = roundsW (wordsU b 64) h j.1) (fun j => 64 - j.1) (0, h, p19) ⟨Nat.zero_le _, rfl⟩ ⟨rfl, rfl, rfl, rfl, rfl, trivial⟩ (.refl _) <| ?_
  rintro ⟨j, x, r⟩ ⟨hj, hx⟩
  dsimp only at hj hx ⊢
  have hxs := encR_sz x.l
  by_cases hlt : j < 64
  · have hk := encR_get keyW j (by rw [keyW_len]; exact hlt)
    have hw := encR_get (wordsU b 64) j (by rw [wordsU_len]; exact hlt)
    refine S.sq <| Q.rg <| Q.mv rfl <| Q.bi rfl rfl rfl <| Q.nt <| S.cT rfl (decide_eq_true (by omega)) <| UW.skip <| UQ.then <| S.sq <| UW.block <| Q.rg <| Q.mv rfl <| S.qu (Z.io sl133 rfl rfl (by omega) (by omega)) <| S.qu (Z.lrc 0 ty118 rfl rfl (m := 4) rfl (by assumption) rfl) <| ?_
    refine Q.as rfl <| Q.nt <| Q.rg <| Q.mv rfl <| S.qu (Z.io sl133 rfl rfl (by omega) (by omega)) <| S.qu (Z.lrc 0 ty118 rfl rfl (m := 0) rfl (by assumption) rfl) <| ?_
    refine Q.as rfl <| Q.nt <| S.sq <| ?_
    refine' UW.draw' (by kernel_rfl) [0, 1, 3, 0, 8, 0, 56, 120, 0, 376, 1016, 2047, 0, 0, 8192, 24576, 61440, 0, 131072, 0, 524288, 1572864, 4063232, 8384512, 16777215, 0, 0, 100663296, 234881024, 536870911, 0, 0, 3221225472, 7516192768, 17179869183, 34359738367] [some 30, some 31, some 32, some 33, some 34, some 35, some 36, some 37, some 38, some 39, some 40, some 41, some 42, some 43, some 44, some 45, some 46, some 47, some 48, some 49, some 50, some 51, some 52, some 53, some 54, some 55, some 56, some 57, some 58, some 59, some 60, some 61, some 62, some 63, some 64, some 11] [some (30, _), some (31, _), some (32, _), some (33, _), some (34, _), some (35, _), some (36, _), some (37, _), some (38, _), some (39, _), some (40, _), some (41, _), some (42, _), some (43, _), some (44, _), some (45, _), some (46, _), some (47, _), some (48, _), some (49, _), some (50, _), some (51, _), some (52, _), some (53, _), some (54, _), some (55, _), some (56, _), some (57, _), some (58, _), some (59, _), some (60, _), some (61, _), some (62, _), some (63, _), some (64, _), some (11, _)] [] [2, 15, 21, 28, 33] rfl (by decide) (by decide) (QAll.free (by decide) rfl rfl ?q7x0_0 (QAll.free (by decide) rfl rfl ?q7x0_1 (QAll.held (by decide) rfl rfl ?q7x0_2 (QAll.free (by decide) rfl rfl ?q7x0_3 (QAll.free (by decide) rfl rfl ?q7x0_4 (QAll.free (by decide) rfl rfl ?q7x0_5 (QAll.free (by decide) rfl rfl ?q7x0_6 (QAll.free (by decide) rfl rfl ?q7x0_7 (QAll.free (by decide) rfl rfl ?q7x0_8 (QAll.free (by decide) rfl rfl ?q7x0_9 (QAll.free (by decide) rfl rfl ?q7x0_10 (QAll.free (by decide) rfl rfl ?q7x0_11 (QAll.free (by decide) rfl rfl ?q7x0_12 (QAll.free (by decide) rfl rfl ?q7x0_13 (QAll.free (by decide) rfl rfl ?q7x0_14 (QAll.held (by decide) rfl rfl ?q7x0_15 (QAll.free (by decide) rfl rfl ?q7x0_16 (QAll.free (by decide) rfl rfl ?q7x0_17 (QAll.free (by decide) rfl rfl ?q7x0_18 (QAll.free (by decide) rfl rfl ?q7x0_19 (QAll.free (by decide) rfl rfl ?q7x0_20 (QAll.held (by decide) rfl rfl ?q7x0_21 (QAll.free (by decide) rfl rfl ?q7x0_22 (QAll.free (by decide) rfl rfl ?q7x0_23 (QAll.free (by decide) rfl rfl ?q7x0_24 (QAll.free (by decide) rfl rfl ?q7x0_25 (QAll.free (by decide) rfl rfl ?q7x0_26 (QAll.free (by decide) rfl rfl ?q7x0_27 (QAll.held (by decide) rfl rfl ?q7x0_28 (QAll.free (by decide) rfl rfl ?q7x0_29 (QAll.free (by decide) rfl rfl ?q7x0_30 (QAll.free (by decide) rfl rfl ?q7x0_31 (QAll.free (by decide) rfl rfl ?q7x0_32 (QAll.held (by decide) rfl rfl ?q7x0_33 (QAll.free (by decide) rfl rfl ?q7x0_34 (QAll.free (by decide) rfl rfl ?q7x0_35 QAll.nil)))))))))))))))))))))))))))))))))))) ?q7x0_k
    case q7x0_0 => (intro _; exact Z.mv rfl)
    case q7x0_1 => (intro _; exact Z.io sl133 rfl rfl (by omega) (by omega))
    case q7x0_2 => exact Z.lrc 0 ty118 rfl rfl (m := 7) rfl (by assumption) rfl
    case q7x0_3 => (intro _; exact Z.mv rfl)
    case q7x0_4 => (intro _; exact Z.call rfl rfl (fun _ => turn_spec _ _ (by omega) (by omega) _))
    case q7x0_5 => (intro _; exact Z.mv rfl)
    case q7x0_6 => (intro _; exact Z.call rfl rfl (fun _ => turn_spec _ _ (by omega) (by omega) _))
    case q7x0_7 => (intro _; exact Z.wxor rfl rfl)
    case q7x0_8 => (intro _; exact Z.mv rfl)
    case q7x0_9 => (intro _; exact Z.call rfl rfl (fun _ => turn_spec _ _ (by omega) (by omega) _))
    case q7x0_10 => (intro _; exact Z.wxor rfl rfl)
    case q7x0_11 => (intro _; exact Z.wadd rfl rfl)
    case q7x0_12 => (intro _; exact Z.mv rfl)
    case q7x0_13 => (intro _; exact Z.mv rfl)
    case q7x0_14 => (intro _; exact Z.io sl133 rfl rfl (by omega) (by omega))
    case q7x0_15 => exact Z.lrc 0 ty118 rfl rfl (m := 5) rfl (by assumption) rfl
    case q7x0_16 => (intro _; exact Z.wand rfl rfl)
    case q7x0_17 => (intro _; exact Z.mv rfl)
    case q7x0_18 => (intro _; exact Z.wnot rfl)
    case q7x0_19 => (intro _; exact Z.mv rfl)
    case q7x0_20 => (intro _; exact Z.io sl133 rfl rfl (by omega) (by omega))
    case q7x0_21 => exact Z.lrc 0 ty118 rfl rfl (m := 6) rfl (by assumption) rfl
    case q7x0_22 => (intro _; exact Z.wand rfl rfl)
    case q7x0_23 => (intro _; exact Z.wxor rfl rfl)
    case q7x0_24 => (intro _; exact Z.wadd rfl rfl)
    case q7x0_25 => (intro _; exact Z.mv rfl)
    case q7x0_26 => (intro _; exact Z.mv rfl)
    case q7x0_27 => (intro _; exact Z.ia sl133 rfl rfl (by omega) hk (by rfl))
    case q7x0_28 => exact Z.lpc ty118 rfl
    case q7x0_29 => (intro _; exact Z.wadd rfl rfl)
    case q7x0_30 => (intro _; exact Z.mv rfl)
    case q7x0_31 => (intro _; exact Z.mv rfl)
    case q7x0_32 => (intro _; exact Z.ia sl133 rfl rfl (by omega) hw (by rfl))
    case q7x0_33 => exact Z.lpc ty118 rfl
    case q7x0_34 => (intro _; exact Z.wadd rfl rfl)
    case q7x0_35 => (intro _; exact Z.as rfl)
    refine CH.nil <| ?_
    simp only [app, finL]
    refine UQ.then <| S.sq <| ?_
    refine' UW.draw' (by kernel_rfl) [0, 1, 0, 7, 15, 0, 47, 127, 0, 0, 512, 1536, 3840, 0, 0, 16384, 49152, 122880, 261888, 0, 524288, 1572864, 0, 4194304, 12582912, 33030144, 67108608, 134217727, 268435455] [some 65, some 66, some 67, some 68, some 69, some 70, some 71, some 72, some 73, some 74, some 75, some 76, some 77, some 78, some 79, some 80, some 81, some 82, some 83, some 84, some 85, some 86, some 87, some 88, some 89, some 90, some 91, some 92, some 12] [some (65, _), some (66, _), some (67, _), some (68, _), some (69, _), some (70, _), some (71, _), some (72, _), some (73, _), some (74, _), some (75, _), some (76, _), some (77, _), some (78, _), some (79, _), some (80, _), some (81, _), some (82, _), some (83, _), some (84, _), some (85, _), some (86, _), some (87, _), some (88, _), some (89, _), some (90, _), some (91, _), some (92, _), some (12, _)] [] [11, 16, 21, 24] rfl (by decide) (by decide) (QAll.free (by decide) rfl rfl ?q7x1_0 (QAll.free (by decide) rfl rfl ?q7x1_1 (QAll.free (by decide) rfl rfl ?q7x1_2 (QAll.free (by decide) rfl rfl ?q7x1_3 (QAll.free (by decide) rfl rfl ?q7x1_4 (QAll.free (by decide) rfl rfl ?q7x1_5 (QAll.free (by decide) rfl rfl ?q7x1_6 (QAll.free (by decide) rfl rfl ?q7x1_7 (QAll.free (by decide) rfl rfl ?q7x1_8 (QAll.free (by decide) rfl rfl ?q7x1_9 (QAll.free (by decide) rfl rfl ?q7x1_10 (QAll.held (by decide) rfl rfl ?q7x1_11 (QAll.free (by decide) rfl rfl ?q7x1_12 (QAll.free (by decide) rfl rfl ?q7x1_13 (QAll.free (by decide) rfl rfl ?q7x1_14 (QAll.free (by decide) rfl rfl ?q7x1_15 (QAll.held (by decide) rfl rfl ?q7x1_16 (QAll.free (by decide) rfl rfl ?q7x1_17 (QAll.free (by decide) rfl rfl ?q7x1_18 (QAll.free (by decide) rfl rfl ?q7x1_19 (QAll.free (by decide) rfl rfl ?q7x1_20 (QAll.held (by decide) rfl rfl ?q7x1_21 (QAll.free (by decide) rfl rfl ?q7x1_22 (QAll.free (by decide) rfl rfl ?q7x1_23 (QAll.held (by decide) rfl rfl ?q7x1_24 (QAll.free (by decide) rfl rfl ?q7x1_25 (QAll.free (by decide) rfl rfl ?q7x1_26 (QAll.free (by decide) rfl rfl ?q7x1_27 (QAll.free (by decide) rfl rfl ?q7x1_28 QAll.nil))))))))))))))))))))))))))))) ?q7x1_k
    case q7x1_0 => (intro _; exact Z.mv rfl)
    case q7x1_1 => (intro _; exact Z.call rfl rfl (fun _ => turn_spec _ _ (by omega) (by omega) _))
    case q7x1_2 => (intro _; exact Z.mv rfl)
    case q7x1_3 => (intro _; exact Z.call rfl rfl (fun _ => turn_spec _ _ (by omega) (by omega) _))
    case q7x1_4 => (intro _; exact Z.wxor rfl rfl)
    case q7x1_5 => (intro _; exact Z.mv rfl)
    case q7x1_6 => (intro _; exact Z.call rfl rfl (fun _ => turn_spec _ _ (by omega) (by omega) _))
    case q7x1_7 => (intro _; exact Z.wxor rfl rfl)
    case q7x1_8 => (intro _; exact Z.mv rfl)
    case q7x1_9 => (intro _; exact Z.mv rfl)
    case q7x1_10 => (intro _; exact Z.io sl133 rfl rfl (by omega) (by omega))
    case q7x1_11 => exact Z.lrc 0 ty118 rfl rfl (m := 1) rfl (by assumption) rfl
    case q7x1_12 => (intro _; exact Z.wand rfl rfl)
    case q7x1_13 => (intro _; exact Z.mv rfl)
    case q7x1_14 => (intro _; exact Z.mv rfl)
    case q7x1_15 => (intro _; exact Z.io sl133 rfl rfl (by omega) (by omega))
    case q7x1_16 => exact Z.lrc 0 ty118 rfl rfl (m := 2) rfl (by assumption) rfl
    case q7x1_17 => (intro _; exact Z.wand rfl rfl)
    case q7x1_18 => (intro _; exact Z.wxor rfl rfl)
    case q7x1_19 => (intro _; exact Z.mv rfl)
    case q7x1_20 => (intro _; exact Z.io sl133 rfl rfl (by omega) (by omega))
    case q7x1_21 => exact Z.lrc 0 ty118 rfl rfl (m := 1) rfl (by assumption) rfl
    case q7x1_22 => (intro _; exact Z.mv rfl)
    case q7x1_23 => (intro _; exact Z.io sl133 rfl rfl (by omega) (by omega))
    case q7x1_24 => exact Z.lrc 0 ty118 rfl rfl (m := 2) rfl (by assumption) rfl
    case q7x1_25 => (intro _; exact Z.wand rfl rfl)
    case q7x1_26 => (intro _; exact Z.wxor rfl rfl)
    case q7x1_27 => (intro _; exact Z.wadd rfl rfl)
    case q7x1_28 => (intro _; exact Z.as rfl)
    refine CH.nil <| ?_
    simp only [app, finL]
    refine UQ.then <| ?_
    refine' UW.draw' (by kernel_rfl) [0, 0, 3, 0, 0, 16, 48, 0, 128, 384, 0, 1024, 3072, 0, 15360, 0, 0, 65536, 196608, 0, 524288, 1572864, 4194303, 8388607] [some 93, some 94, some 95, some 96, some 97, some 98, some 99, some 100, some 101, some 102, some 103, some 104, some 105, some 106, some 107, some 108, some 109, some 110, some 111, some 112, some 113, some 114, none, none] [some (93, _), some (94, _), some (95, _), some (96, _), some (97, _), some (98, _), some (99, _), some (100, _), some (101, _), some (102, _), some (103, _), some (104, _), some (105, _), some (106, _), some (107, _), some (108, _), some (109, _), some (110, _), some (111, _), some (112, _), some (113, _), some (114, _), none, none] [22, 23] [6, 9, 12, 18, 21] rfl (by decide) (by decide) (QAll.free (by decide) rfl rfl ?q7x2_0 (QAll.free (by decide) rfl rfl ?q7x2_1 (QAll.free (by decide) rfl rfl ?q7x2_2 (QAll.free (by decide) rfl rfl ?q7x2_3 (QAll.free (by decide) rfl rfl ?q7x2_4 (QAll.free (by decide) rfl rfl ?q7x2_5 (QAll.held (by decide) rfl rfl ?q7x2_6 (QAll.free (by decide) rfl rfl ?q7x2_7 (QAll.free (by decide) rfl rfl ?q7x2_8 (QAll.held (by decide) rfl rfl ?q7x2_9 (QAll.free (by decide) rfl rfl ?q7x2_10 (QAll.free (by decide) rfl rfl ?q7x2_11 (QAll.held (by decide) rfl rfl ?q7x2_12 (QAll.free (by decide) rfl rfl ?q7x2_13 (QAll.free (by decide) rfl rfl ?q7x2_14 (QAll.free (by decide) rfl rfl ?q7x2_15 (QAll.free (by decide) rfl rfl ?q7x2_16 (QAll.free (by decide) rfl rfl ?q7x2_17 (QAll.held (by decide) rfl rfl ?q7x2_18 (QAll.free (by decide) rfl rfl ?q7x2_19 (QAll.free (by decide) rfl rfl ?q7x2_20 (QAll.held (by decide) rfl rfl ?q7x2_21 (QAll.skip (QAll.skip QAll.nil)))))))))))))))))))))))) ?q7x2_k
    case q7x2_0 => (intro _; exact Z.mv rfl)
    case q7x2_1 => (intro _; exact Z.mv rfl)
    case q7x2_2 => (intro _; exact Z.wadd rfl rfl)
    case q7x2_3 => (intro _; exact Z.mv rfl)
    case q7x2_4 => (intro _; exact Z.mv rfl)
    case q7x2_5 => (intro _; exact Z.io sl133 rfl rfl (by omega) (by omega))
    case q7x2_6 => exact Z.lrc 0 ty118 rfl rfl (m := 1) rfl (by assumption) rfl
    case q7x2_7 => (intro _; exact Z.mv rfl)
    case q7x2_8 => (intro _; exact Z.io sl133 rfl rfl (by omega) (by omega))
    case q7x2_9 => exact Z.lrc 0 ty118 rfl rfl (m := 2) rfl (by assumption) rfl
    case q7x2_10 => (intro _; exact Z.mv rfl)
    case q7x2_11 => (intro _; exact Z.io sl133 rfl rfl (by omega) (by omega))
    case q7x2_12 => exact Z.lrc 0 ty118 rfl rfl (m := 3) rfl (by assumption) rfl
    case q7x2_13 => (intro _; exact Z.mv rfl)
    case q7x2_14 => (intro _; exact Z.wadd rfl rfl)
    case q7x2_15 => (intro _; exact Z.mv rfl)
    case q7x2_16 => (intro _; exact Z.mv rfl)
    case q7x2_17 => (intro _; exact Z.io sl133 rfl rfl (by omega) (by omega))
    case q7x2_18 => exact Z.lrc 0 ty118 rfl rfl (m := 5) rfl (by assumption) rfl
    case q7x2_19 => (intro _; exact Z.mv rfl)
    case q7x2_20 => (intro _; exact Z.io sl133 rfl rfl (by omega) (by omega))
    case q7x2_21 => exact Z.lrc 0 ty118 rfl rfl (m := 6) rfl (by assumption) rfl
    refine CH.cons rfl rfl (by decide) <| D.lit row133 rfl rfl (lit_ok rfl) fun p115 => CH.cons rfl rfl (by decide) <| D.qu (Z.as rfl) <| CH.nil <| ?_
    simp only [app, finL]
    refine UQ.blockN <| UQ.then <| S.rg <| Q.mv rfl <| S.qu (Z.add (r := ((j + 1 : Nat) : Int)) rfl rfl (IntWalk.i64_in _ (by omega))) <| Q.as rfl <| US.nil <| ?_
    refine S.back (j + 1, roundW x (keyW.getD j 0) ((wordsU b 64).getD j 0), p115) ⟨rfl, rfl, rfl, rfl, rfl, trivial⟩ (by repeat (first | exact List.Sublist.refl _ | exact List.nil_sublist _ | refine .cons_cons _ ?_ | refine .cons _ ?_)) ?_ (by omega)
    exact ⟨by show j + 1 ≤ 64; omega, by show roundW x _ _ = _; rw [hx]; rfl⟩
  · have hj64 : j = 64 := by omega
    subst hj64
    refine S.sq <| Q.rg <| Q.mv rfl <| Q.bi rfl rfl rfl <| Q.nt <| S.cF rfl (decide_eq_false (by omega)) <| UW.exit <| UQ.pass <| UQ.pass <| UQ.here <| UQ.then <| S.sq <| Q.rg <| Q.as rfl <| Q.nt <| UW.block <| S.loop (fun m : Nat => [(13, .v (.int .i64 (m : Int))), (7, .own r 0 8 1), (0, .sl (encR h.l))]) (fun m => [(r, .row 118 1 (encR (mixW x h m)))]) (fun m => m ≤ 8) (fun m => 8 - m) 0 (Nat.zero_le _) ⟨rfl, rfl, rfl, trivial⟩ (.refl _) <| ?_
    intro m hm
    have hms := encR_sz (mixW x h m)
    have hml := encR_len (mixW x h m)
    rw [mixW_len] at hml
    by_cases hlt8 : m < 8
    · have h84 := encR_get (mixW x h m) m (by rw [mixW_len]; exact hlt8)
      rw [mixW_at x h ⟨m, hlt8⟩] at h84
      have h87 := encR_get h.l m hlt8
      have hset : (encR (mixW x h m)).set m [.v (.int .u32 (addW (x.l.getD m 0) (h.l.getD m 0)))] = encR (mixW x h (m + 1)) := by
        rw [← mixW_set x h ⟨m, hlt8⟩]; unfold encR; rw [List.map_set]
      refine S.sq <| Q.rg <| Q.mv rfl <| Q.bi rfl rfl rfl <| Q.nt <| S.cT rfl (decide_eq_true (by omega)) <| UW.skip <| UQ.then <| S.sq <| UW.block <| ?_
      refine' UW.draw' (by kernel_rfl) [0, 0, 3, 7, 0, 0, 48, 112, 255, 511, 1023] [some 120, some 121, some 122, some 123, some 124, some 125, some 126, some 127, some 128, some 129, none] [some (120, _), some (121, _), some (122, _), some (123, _), some (124, _), some (125, _), some (126, _), some (127, _), some (128, _), some (129, _), none] [10] [3, 7] rfl (by decide) (by decide) (QAll.free (by decide) rfl rfl ?q9x0_0 (QAll.free (by decide) rfl rfl ?q9x0_1 (QAll.free (by decide) rfl rfl ?q9x0_2 (QAll.held (by decide) rfl rfl ?q9x0_3 (QAll.free (by decide) rfl rfl ?q9x0_4 (QAll.free (by decide) rfl rfl ?q9x0_5 (QAll.free (by decide) rfl rfl ?q9x0_6 (QAll.held (by decide) rfl rfl ?q9x0_7 (QAll.free (by decide) rfl rfl ?q9x0_8 (QAll.free (by decide) rfl rfl ?q9x0_9 (QAll.skip QAll.nil))))))))))) ?q9x0_k
      case q9x0_0 => (intro _; exact Z.mv rfl)
      case q9x0_1 => (intro _; exact Z.mv rfl)
      case q9x0_2 => (intro _; exact Z.io sl133 rfl rfl (by omega) (by omega))
      case q9x0_3 => exact Z.lrc 0 ty118 rfl rfl (m := m) (by omega) hms h84
      case q9x0_4 => (intro _; exact Z.mv rfl)
      case q9x0_5 => (intro _; exact Z.mv rfl)
      case q9x0_6 => (intro _; exact Z.ia sl133 rfl rfl (by omega) h87 (by rfl))
      case q9x0_7 => exact Z.lpc ty118 rfl
      case q9x0_8 => (intro _; exact Z.wadd rfl rfl)
      case q9x0_9 => (intro _; exact Z.io sl133 rfl rfl (by omega) (by omega))
      refine CH.cons0 rfl rfl <| D.sre 0 (m := m) ty118 rfl rfl (by omega) (by omega) rfl rfl rfl rfl hms hset fun _ => CH.nil <| ?_
      simp only [app, finL]
      refine UQ.blockN <| UQ.then <| S.rg <| Q.mv rfl <| S.qu (Z.add (r := ((m + 1 : Nat) : Int)) rfl rfl (IntWalk.i64_in _ (by omega))) <| Q.as rfl <| US.nil <| ?_
      refine S.back (m + 1) ⟨rfl, rfl, rfl, trivial⟩ (.refl _) (by omega) (by omega)
    · have hm8 : m = 8 := by omega
      subst hm8
      have hfin : mixW x h 8 = (takeW h b).l := by
        rw [hx]
        unfold takeW
        generalize roundsW (wordsU b 64) h 64 = y
        rfl
      rw [hfin]
      refine S.sq <| Q.rg <| Q.mv rfl <| Q.bi rfl rfl rfl <| Q.nt <| S.cF rfl (decide_eq_false (by omega)) <| UW.exit <| UQ.pass <| UQ.pass <| UQ.here <| UQ.then <| Q.rg <| Q.mv rfl <| Q.as rfl <| US.freeze' 4 0 (rs := encR (takeW h b).l) rfl rfl (by rw [encR_len]; exact Nat.le_refl 8) (by rw [List.drop_zero]; exact List.take_of_length_le (by rw [encR_len]; exact Nat.le_refl 8)) <| ?_
      refine Q.nt <| UW.ret <| S.rtR (fun _ => res_tmp rfl rfl) <| ?_
      rfl
end Go.Proofs.YtgmfgmbgmjbdhaaGreatDoor
