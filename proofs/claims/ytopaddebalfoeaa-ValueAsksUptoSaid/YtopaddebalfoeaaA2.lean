/- What is asked of values: what it answers. -/
import Derived.Test.YtopaddebalfoeaaA1
import Derived.Test.YtopaddebalfoeaaV9
import Derived.Test.YtopaddebalfoeaaVd
namespace Go.Proofs.Ytopaddebalfoeaa
open Go Go.RowKit Go.Eng
set_option linter.unusedSimpArgs false
set_option linter.unusedVariables false
set_option maxRecDepth 100000
set_option maxHeartbeats 4000000
theorem FitN.without {a : Nat} {x : V} (h : FitN a x) (key : ByteArray) : FitN a (withoutV x key) := by
  unfold withoutV
  split
  · obtain ⟨h1, h2, h3⟩ := h
    have c1 : ∀ {α : Type} (l : List α) (i : Nat), (cutAt l i).length ≤ l.length := fun l i => by unfold cutAt; rw [List.length_append, List.length_take, List.length_drop]; omega
    have c2 : ∀ (l : List V) (i : Nat), ∀ v ∈ cutAt l i, v ∈ l := fun l i v hv => by
      unfold cutAt at hv
      rcases List.mem_append.1 hv with h | h
      · exact List.mem_of_mem_take h
      · exact List.mem_of_mem_drop h
    refine ⟨Nat.le_trans (c1 _ _) ?_, Nat.le_trans (c1 _ _) ?_, fun v hv => h3 v (List.mem_of_mem_take (c2 _ _ v hv))⟩
    · rw [cutV_eq]; simp only [vks, List.length_take]; omega
    · rw [cutV_eq]; simp only [vvs, List.length_take]; omega
  · exact h
theorem get_fits2 {x : V} (h : Fits x) (s : ByteArray) : Fits (getV x s).1 := by
  unfold getV
  cases hp : pl x s with
  | none => exact fits_zero
  | some i => exact h.vs _ (getD_mem (pl_lt hp).1)
theorem sameLaw_spec (x : V) (hx : Fits x) (y : V) (H : Hp) : ACall Try.prog 32 [.agg (encV x), .agg (encV y)] H (IsR H (.v (.bool true))) := by
  have h1 := fun H => same_spec x hx y H
  have h2 := fun H => sameR_spec x hx y H
  generalize sameV x y = b at *
  refine UCall (n := 12) (H0 := H) (objs := []) Try.func32 (by kernel_rfl) rfl (by rw [Try.ntmps32]; rfl) .nil <| ?_
  refine Q.rg <| S.dd <| D.box rfl rfl (by exact encV_cell _) fun p2 => ?_
  refine S.dd <| D.box rfl rfl (by exact encV_cell _) fun p3 => ?_
  refine Q.as rfl <| Q.nt <| S.sq <| ?_
  refine' UW.draw' (by kernel_rfl) [0, 0, 3, 0, 0, 31, 63, 127] [some 5, some 6, some 7, some 8, some 9, some 10, some 11, some 4] [some (5, _), some (6, _), some (7, _), some (8, _), some (9, _), some (10, _), some (11, _), some (4, _)] [] [0, 1, 3, 4] rfl (by decide) (by decide) (QAll.held (by decide) rfl rfl ?q0x0_0 (QAll.held (by decide) rfl rfl ?q0x0_1 (QAll.free (by decide) rfl rfl ?q0x0_2 (QAll.held (by decide) rfl rfl ?q0x0_3 (QAll.held (by decide) rfl rfl ?q0x0_4 (QAll.free (by decide) rfl rfl ?q0x0_5 (QAll.free (by decide) rfl rfl ?q0x0_6 (QAll.free (by decide) rfl rfl ?q0x0_7 QAll.nil)))))))) ?q0x0_k
  case q0x0_0 => exact Z.ldw 1 ty27 rfl rfl (encV_len _)
  case q0x0_1 => exact Z.ldw 0 ty27 rfl rfl (encV_len _)
  case q0x0_2 => (intro _; exact Z.call rfl rfl h1)
  case q0x0_3 => exact Z.ldw 1 ty27 rfl rfl (encV_len _)
  case q0x0_4 => exact Z.ldw 0 ty27 rfl rfl (encV_len _)
  case q0x0_5 => (intro _; exact Z.call rfl rfl h2)
  case q0x0_6 => (intro _; exact Z.eq (u' := .v (.bool true)) (Z.beq Try.underlying4 rfl rfl) (by simp))
  case q0x0_7 => (intro _; exact Z.as rfl)
  refine CH.nil <| ?_
  simp only [app, finL]
  refine UQ.then <| UW.ret <| S.rtR (fun _ => res_tmp rfl rfl) <| ?_
  rfl
theorem asks_spec (v x : V) (key : ByteArray) (hv : FitN 1000 v) (htv : Tx v) (hdv : deepV v ≤ 1000) (hx : Fits x) (H : Hp) : ACall Try.prog 31 [.agg (encV v), .agg (encV x), .v (.string key)] H (IsR H (.v (.bool true))) := by
  have hvf := hv.fits (by decide)
  have hg := get_fits2 hvf key
  have hks : ∀ s ∈ v.ks, s.size ≤ 4000000 := by cases htv; assumption
  have c1 := fun H => get_spec v hvf key H
  have c2 := fun H => getR_spec v hvf key H
  have c3 := fun H => with_spec v hvf key x hx H
  have c4 := fun H => withR_spec v hvf hks key x H
  have c5 := fun H => without_spec v hvf key H
  have c6 := fun H => withoutR_spec v hvf key H
  have c7 := fun H => copyR_pure (copy_spec v hvf H)
  have c8 := fun H => right_spec v hvf H
  have c9 := fun H => rightR_spec v hvf htv H
  have d1 := fun H => deep_spec v hvf (by omega) H
  have d2 := fun H => deepR_spec v hvf (by omega) H
  have d0 := deepV_nonneg v
  have hw := (hv.with key hx).fits (by decide)
  have hwo := (hv.without key).fits (by decide)
  have e1 : ∀ H, ACall Try.prog 27 [.agg (encV (getV v key).1), .agg (encV (getV v key).1)] H (IsR H (.v (.bool true))) := fun H => by have := sameR_spec _ hg (getV v key).1 H; rwa [same_self _ hg] at this
  have e2 : ∀ H, ACall Try.prog 27 [.agg (encV (withV v key x)), .agg (encV (withV v key x))] H (IsR H (.v (.bool true))) := fun H => by have := sameR_spec _ hw (withV v key x) H; rwa [same_self _ hw] at this
  have e3 : ∀ H, ACall Try.prog 27 [.agg (encV (withoutV v key)), .agg (encV (withoutV v key))] H (IsR H (.v (.bool true))) := fun H => by have := sameR_spec _ hwo (withoutV v key) H; rwa [same_self _ hwo] at this
  have e4 : ∀ H, ACall Try.prog 27 [.agg (encV v), .agg (encV v)] H (IsR H (.v (.bool true))) := fun H => by have := sameR_spec _ hvf v H; rwa [same_self _ hvf] at this
  generalize withV v key x = w at *
  generalize withoutV v key = u at *
  generalize getV v key = g at *
  obtain ⟨g1, g2⟩ := g
  simp only at *
  generalize deepV v = dp at *
  generalize rightV v = rg at *
  clear hw hwo hg hks hvf hv htv hx
  refine UCall (n := 71) (H0 := H) (objs := []) Try.func31 (by kernel_rfl) rfl (by rw [Try.ntmps31]; rfl) .nil <| ?_
  refine Q.rg <| S.dd <| D.box rfl rfl (by exact encV_cell _) fun p3 => ?_
  refine S.dd <| D.box rfl rfl (by exact encV_cell _) fun p4 => ?_
  refine Q.as rfl <| Q.nt <| Q.rg <| S.qu (Z.ldw 1 ty27 rfl rfl (encV_len _)) <| Q.mv rfl <| S.qu (Z.call rfl rfl c1) <| Q.mv rfl <| S.qu (Z.ex rfl rfl) <| S.qu (Z.ex rfl rfl) <| S.dd <| D.al z27 rfl rfl rfl fun p7 => S.s <| D.stw 0 ty27 rfl rfl rfl rfl (by exact encV_cell _) (encV_len _) rfl rfl fun _ => ?_
  refine Q.as rfl <| Q.nt <| Q.rg <| S.qu (Z.ldw 2 ty27 rfl rfl (encV_len _)) <| Q.mv rfl <| S.qu (Z.call rfl rfl c2) <| Q.mv rfl <| S.qu (Z.ex rfl rfl) <| S.qu (Z.ex rfl rfl) <| S.dd <| D.al z27 rfl rfl rfl fun p9 => S.s <| D.stw 0 ty27 rfl rfl rfl rfl (by exact encV_cell _) (encV_len _) rfl rfl fun _ => ?_
  refine Q.as rfl <| Q.nt <| S.sq <| ?_
  refine' UW.draw' (by kernel_rfl) [0, 0, 3, 7, 15, 15, 63, 127, 255, 511, 511, 511, 4095, 511, 511, 511, 65535, 131071, 262143, 524287, 1048575, 1048575, 4194303, 1048575, 1048575, 33554431, 67108863, 134217727, 268435455, 536870911, 1073741823, 536870911, 4294967295, 8589934591, 17179869183, 34359738367, 68719476735, 34359738367, 274877906943, 549755813887, 1099511627775, 2199023255551, 4398046511103, 8796093022207, 4398046511103, 35184372088831, 70368744177663, 140737488355327, 281474976710655] [some 23, some 24, some 25, some 26, some 27, some 28, some 29, some 30, some 31, some 32, some 33, some 34, some 35, some 36, some 37, some 38, some 39, some 40, some 41, some 42, some 43, some 44, some 45, some 46, some 47, some 48, some 49, some 50, some 51, some 52, some 53, some 54, some 55, some 56, some 57, some 58, some 59, some 60, some 61, some 62, some 63, some 64, some 65, some 66, some 67, some 68, some 69, some 70, some 6] [some (23, _), some (24, _), some (25, _), some (26, _), some (27, _), some (28, _), some (29, _), some (30, _), some (31, _), some (32, _), some (33, _), some (34, _), some (35, _), some (36, _), some (37, _), some (38, _), some (39, _), some (40, _), some (41, _), some (42, _), some (43, _), some (44, _), some (45, _), some (46, _), some (47, _), some (48, _), some (49, _), some (50, _), some (51, _), some (52, _), some (53, _), some (54, _), some (55, _), some (56, _), some (57, _), some (58, _), some (59, _), some (60, _), some (61, _), some (62, _), some (63, _), some (64, _), some (65, _), some (66, _), some (67, _), some (68, _), some (69, _), some (70, _), some (6, _)] [] [0, 1, 9, 11, 13, 15, 20, 23, 29, 31, 35, 37, 42, 44] rfl (by decide) (by decide) (QAll.held (by decide) rfl rfl ?q1x0_0 (QAll.held (by decide) rfl rfl ?q1x0_1 (QAll.free (by decide) rfl rfl ?q1x0_2 (QAll.free (by decide) rfl rfl ?q1x0_3 (QAll.free (by decide) rfl rfl ?q1x0_4 (QAll.free (by decide) rfl rfl ?q1x0_5 (QAll.free (by decide) rfl rfl ?q1x0_6 (QAll.free (by decide) rfl rfl ?q1x0_7 (QAll.free (by decide) rfl rfl ?q1x0_8 (QAll.held (by decide) rfl rfl ?q1x0_9 (QAll.free (by decide) rfl rfl ?q1x0_10 (QAll.held (by decide) rfl rfl ?q1x0_11 (QAll.free (by decide) rfl rfl ?q1x0_12 (QAll.held (by decide) rfl rfl ?q1x0_13 (QAll.free (by decide) rfl rfl ?q1x0_14 (QAll.held (by decide) rfl rfl ?q1x0_15 (QAll.free (by decide) rfl rfl ?q1x0_16 (QAll.free (by decide) rfl rfl ?q1x0_17 (QAll.free (by decide) rfl rfl ?q1x0_18 (QAll.free (by decide) rfl rfl ?q1x0_19 (QAll.held (by decide) rfl rfl ?q1x0_20 (QAll.free (by decide) rfl rfl ?q1x0_21 (QAll.free (by decide) rfl rfl ?q1x0_22 (QAll.held (by decide) rfl rfl ?q1x0_23 (QAll.free (by decide) rfl rfl ?q1x0_24 (QAll.free (by decide) rfl rfl ?q1x0_25 (QAll.free (by decide) rfl rfl ?q1x0_26 (QAll.free (by decide) rfl rfl ?q1x0_27 (QAll.free (by decide) rfl rfl ?q1x0_28 (QAll.held (by decide) rfl rfl ?q1x0_29 (QAll.free (by decide) rfl rfl ?q1x0_30 (QAll.held (by decide) rfl rfl ?q1x0_31 (QAll.free (by decide) rfl rfl ?q1x0_32 (QAll.free (by decide) rfl rfl ?q1x0_33 (QAll.free (by decide) rfl rfl ?q1x0_34 (QAll.held (by decide) rfl rfl ?q1x0_35 (QAll.free (by decide) rfl rfl ?q1x0_36 (QAll.held (by decide) rfl rfl ?q1x0_37 (QAll.free (by decide) rfl rfl ?q1x0_38 (QAll.free (by decide) rfl rfl ?q1x0_39 (QAll.free (by decide) rfl rfl ?q1x0_40 (QAll.free (by decide) rfl rfl ?q1x0_41 (QAll.held (by decide) rfl rfl ?q1x0_42 (QAll.free (by decide) rfl rfl ?q1x0_43 (QAll.held (by decide) rfl rfl ?q1x0_44 (QAll.free (by decide) rfl rfl ?q1x0_45 (QAll.free (by decide) rfl rfl ?q1x0_46 (QAll.free (by decide) rfl rfl ?q1x0_47 (QAll.free (by decide) rfl rfl ?q1x0_48 QAll.nil))))))))))))))))))))))))))))))))))))))))))))))))) ?q1x0_k
  case q1x0_0 => exact Z.ldw 1 ty27 rfl rfl (encV_len _)
  case q1x0_1 => exact Z.ldw 0 ty27 rfl rfl (encV_len _)
  case q1x0_2 => (intro _; exact Z.call rfl rfl e1)
  case q1x0_3 => (intro _; exact Z.mv rfl)
  case q1x0_4 => (intro _; exact Z.on (Z.mv rfl))
  case q1x0_5 => (intro _; exact Z.on (Z.mv rfl))
  case q1x0_6 => (intro _; exact Z.on (Z.eq (u' := .v (.bool true)) (Z.beq Try.underlying4 rfl rfl) (by simp)))
  case q1x0_7 => (intro _; exact Z.pick rfl rfl)
  case q1x0_8 => (intro _; exact Z.mv rfl)
  case q1x0_9 => exact Z.on (Z.ldw 3 ty27 rfl rfl (encV_len _))
  case q1x0_10 => (intro _; exact Z.on (Z.mv rfl))
  case q1x0_11 => exact Z.on (Z.ldw 2 ty27 rfl rfl (encV_len _))
  case q1x0_12 => (intro _; exact Z.on (Z.call rfl rfl c3))
  case q1x0_13 => exact Z.on (Z.ldw 3 ty27 rfl rfl (encV_len _))
  case q1x0_14 => (intro _; exact Z.on (Z.mv rfl))
  case q1x0_15 => exact Z.on (Z.ldw 2 ty27 rfl rfl (encV_len _))
  case q1x0_16 => (intro _; exact Z.on (Z.call rfl rfl c4))
  case q1x0_17 => (intro _; exact Z.on (Z.call rfl rfl e2))
  case q1x0_18 => (intro _; exact Z.pick rfl rfl)
  case q1x0_19 => (intro _; exact Z.mv rfl)
  case q1x0_20 => exact Z.on (Z.ldw 3 ty27 rfl rfl (encV_len _))
  case q1x0_21 => (intro _; exact Z.on (Z.mv rfl))
  case q1x0_22 => (intro _; exact Z.on (Z.call rfl rfl c5))
  case q1x0_23 => exact Z.on (Z.ldw 3 ty27 rfl rfl (encV_len _))
  case q1x0_24 => (intro _; exact Z.on (Z.mv rfl))
  case q1x0_25 => (intro _; exact Z.on (Z.call rfl rfl c6))
  case q1x0_26 => (intro _; exact Z.on (Z.call rfl rfl e3))
  case q1x0_27 => (intro _; exact Z.pick rfl rfl)
  case q1x0_28 => (intro _; exact Z.mv rfl)
  case q1x0_29 => exact Z.on (Z.ldw 3 ty27 rfl rfl (encV_len _))
  case q1x0_30 => (intro _; exact Z.on (Z.call rfl rfl c7))
  case q1x0_31 => exact Z.on (Z.ldw 3 ty27 rfl rfl (encV_len _))
  case q1x0_32 => (intro _; exact Z.on (Z.call rfl rfl e4))
  case q1x0_33 => (intro _; exact Z.pick rfl rfl)
  case q1x0_34 => (intro _; exact Z.mv rfl)
  case q1x0_35 => exact Z.on (Z.ldw 3 ty27 rfl rfl (encV_len _))
  case q1x0_36 => (intro _; exact Z.on (Z.call rfl rfl c8))
  case q1x0_37 => exact Z.on (Z.ldw 3 ty27 rfl rfl (encV_len _))
  case q1x0_38 => (intro _; exact Z.on (Z.call rfl rfl c9))
  case q1x0_39 => (intro _; exact Z.on (Z.eq (u' := .v (.bool true)) (Z.beq Try.underlying4 rfl rfl) (by simp)))
  case q1x0_40 => (intro _; exact Z.pick rfl rfl)
  case q1x0_41 => (intro _; exact Z.mv rfl)
  case q1x0_42 => exact Z.on (Z.ldw 3 ty27 rfl rfl (encV_len _))
  case q1x0_43 => (intro _; exact Z.on (Z.call rfl rfl d1))
  case q1x0_44 => exact Z.on (Z.ldw 3 ty27 rfl rfl (encV_len _))
  case q1x0_45 => (intro _; exact Z.on (Z.call rfl rfl d2))
  case q1x0_46 => (intro _; exact Z.on (Z.tT (Z.bi rfl rfl rfl) (decide_eq_true (by omega))))
  case q1x0_47 => (intro _; exact Z.pick rfl rfl)
  case q1x0_48 => (intro _; exact Z.as rfl)
  refine CH.nil <| ?_
  simp only [app, finL]
  refine UQ.then <| UW.ret <| S.rtR (fun _ => res_tmp rfl rfl) <| ?_
  rfl
theorem texts_snoc (l : List ByteArray) (j : Nat) (hj : j < l.length) : encVs ((l.take j).map strV) ++ [encV (strV l[j])] = encVs ((l.take (j + 1)).map strV) := by
  rw [encVs_eq, encVs_eq, List.take_add_one, List.map_append, List.map_append, List.getElem?_eq_getElem hj]; rfl
theorem textsR_spec (l : List ByteArray) (hl : l.length ≤ 1000000) (H : Hp) : ACall Try.prog 30 [strs l] H (IsR H (.agg (encV (textsV l)))) := by
  have hml : (l.map encS).length = l.length := List.length_map ..
  refine UCall (n := 23) (H0 := H) (objs := []) Try.func30 (by kernel_rfl) rfl (by rw [Try.ntmps30]; rfl) .nil <| ?_
  refine Q.rg <| S.dd <| D.al z27 rfl rfl rfl fun p2 => Q.nt <| Q.rg <| S.qu (Z.bdp [0] bt27 rfl rfl rfl rfl rfl) <| S.dd <| D.al z27 rfl rfl rfl fun p3 => S.s <| D.st 0 ty27 rfl rfl rfl rfl rfl rfl rfl rfl fun _ => Q.nt <| UW.nilCell 0 4 27 (sz := 5) (by decide) rfl rfl fun id => S.sq <| Q.rg <| Q.as rfl <| Q.nt <| UW.block <| S.loop (fun s : Nat × Nat => [(4, .v (.int .i64 (s.1 : Int))), (3, .ptr p3 0), (2, .ptr p2 0), (0, strs l)]) (fun s => [(s.2, .row 27 5 (encVs ((l.take s.1).map strV))), (p3, .box 27 [.v (.int .i64 4), .v (.int .i64 0), .v (.string ⟨#[]⟩), .v (.slice none 0 0), .own s.2 0 s.1 5]), (p2, .box 27 (encV zeroV))]) (fun s => s.1 ≤ l.length) (fun s => l.length - s.1) (0, id) (Nat.zero_le _) ⟨rfl, rfl, rfl, rfl, trivial⟩ (.refl _) <| ?_
  rintro ⟨j, id⟩ hj
  simp only at hj
  simp only
  have hvl : (encVs ((l.take j).map strV)).length = j := by rw [encVs_len, List.length_map, List.length_take]; omega
  by_cases hjl : j < l.length
  · have hg := strs_get l j hjl
    have hsn : (encVs ((l.take j).map strV)).take j ++ [encV (strV l[j])] = encVs ((l.take (j + 1)).map strV) := by rw [List.take_of_length_le (by omega)]; exact texts_snoc l j hjl
    generalize l[j] = s at *
    refine S.sq <| Q.rg <| Q.mv rfl <| Q.mv rfl <| S.qu (Z.lns sl24 rfl) <| Q.bi rfl rfl rfl <| Q.nt <| S.cT rfl (decide_eq_true (by omega)) <| UW.skip <| UQ.then <| S.sq <| UW.block <| ?_
    refine' UW.draw' (by kernel_rfl) [0, 1, 0, 0, 12, 28, 60, 124, 255, 511, 1023] [some 12, some 13, some 14, some 15, some 16, some 17, some 18, some 19, none, none, none] [some (12, _), some (13, _), some (14, _), some (15, _), some (16, _), some (17, _), some (18, _), some (19, _), none, none, none] [8, 9, 10] [1, 5] rfl (by decide) (by decide) (QAll.free (by decide) rfl rfl ?q3x0_0 (QAll.held (by decide) rfl rfl ?q3x0_1 (QAll.free (by decide) rfl rfl ?q3x0_2 (QAll.free (by decide) rfl rfl ?q3x0_3 (QAll.free (by decide) rfl rfl ?q3x0_4 (QAll.held (by decide) rfl rfl ?q3x0_5 (QAll.free (by decide) rfl rfl ?q3x0_6 (QAll.free (by decide) rfl rfl ?q3x0_7 (QAll.skip (QAll.skip (QAll.skip QAll.nil))))))))))) ?q3x0_k
    case q3x0_0 => (intro _; exact Z.fa f27_4 rfl)
    case q3x0_1 => exact Z.ldc 1 ty25 rfl rfl rfl
    case q3x0_2 => (intro _; exact Z.mv rfl)
    case q3x0_3 => (intro _; exact Z.mv rfl)
    case q3x0_4 => (intro _; exact Z.ia sl24 rfl rfl (by omega) (by assumption) (by rfl))
    case q3x0_5 => exact Z.lpc ty9 rfl
    case q3x0_6 => (intro _; exact Z.call rfl rfl (fun _ => strR_spec _ _))
    case q3x0_7 => (intro _; exact Z.bl row25 rfl rfl (lit_ok rfl))
    refine CH.cons rfl rfl (by decide) <| D.ap 0 row25 rfl rfl (by omega) rfl (.sl (by intro cs h; cases List.mem_singleton.1 h; exact encV_len _)) (by (simp; omega)) hsn fun p20 => ?_
    refine CH.cons rfl rfl (by decide) <| D.qu (Z.fa f27_4 rfl) <| CH.cons0 rfl rfl <| D.st 1 ty25 rfl rfl rfl rfl rfl rfl rfl rfl fun _ => CH.nil <| ?_
    simp only [app, finL]
    refine UQ.blockN <| UQ.then <| S.rg <| Q.mv rfl <| S.qu (Z.add (r := ((j + 1 : Nat) : Int)) rfl rfl (IntWalk.i64_in _ (by omega))) <| Q.as rfl <| US.nil <| ?_
    refine S.back (_, _) ⟨rfl, rfl, rfl, rfl, trivial⟩ (.refl _) (by omega) (by omega)
  · have he : ((encVs ((l.take j).map strV)).drop 0).take j = encVs (l.map strV) := by rw [List.drop_zero, List.take_of_length_le (by omega), List.take_of_length_le (by omega)]
    refine S.sq <| Q.rg <| Q.mv rfl <| Q.mv rfl <| S.qu (Z.lns sl24 rfl) <| Q.bi rfl rfl rfl <| Q.nt <| S.cF rfl (decide_eq_false (by omega)) <| UW.exit <| UQ.pass <| UQ.pass <| UQ.here <| UQ.then <| Q.rg <| S.qu (Z.ldw 1 ty27 rfl rfl rfl) <| US.freezeAg 22 4 0 rfl rfl rfl (by omega) he rfl <| S.s <| D.st 1 ty27 rfl rfl rfl rfl rfl rfl rfl rfl fun _ => Q.nt <| UW.ret <| S.rtR (fun hd => res_cell (k := 1) hd rfl rfl rfl st27 sz27) <| ?_
    rfl
end Go.Proofs.Ytopaddebalfoeaa
