/- RedactKeeps: of a content just those keys stay that are kept of its kind; a create's stays whole. -/
import Derived.Test.YtgmfgmbgmjbdhaaGreatDoorKv44
namespace Go.Proofs.YtgmfgmbgmjbdhaaGreatDoor
open Go Go.RowKit Go.Eng
set_option linter.unusedSimpArgs false
set_option linter.unusedVariables false
set_option maxRecDepth 100000
set_option maxHeartbeats 4000000
/-- How many of the first keys stay. -/
def stayN (ks : List ByteArray) (g : ByteArray → Bool) (j : Nat) : Nat := ((ks.take j).filter g).length
theorem stay_succ (ks : List ByteArray) (g : ByteArray → Bool) (j : Nat) (h : j < ks.length) : stayN ks g (j + 1) = stayN ks g j + (if g (ks.getD j ⟨#[]⟩) = true then 1 else 0) := by
  rw [getD_at h]
  unfold stayN
  rw [List.take_add_one, List.getElem?_eq_getElem h, List.filter_append, List.length_append]
  congr 1
  show (List.filter g [ks[j]]).length = _
  cases hg : g ks[j] <;> simp [hg]
theorem stay_le (ks : List ByteArray) (g : ByteArray → Bool) (j : Nat) : stayN ks g j ≤ j := by
  unfold stayN
  exact Nat.le_trans (List.length_filter_le _ _) (by rw [List.length_take]; omega)
theorem pick_keys {b : V} (h : O b) (g : ByteArray → Bool) : (pickV b g).ks.length = stayN b.ks g b.ks.length := by
  rw [h.pick_form g]
  unfold stayN
  rw [List.take_length]
  show (List.map _ _).length = _
  rw [List.length_map]
  have e : (b.ks.zip b.vs).map (·.1) = b.ks := List.map_fst_zip (by have := h.len; omega)
  conv => rhs; rw [← e]
  rw [List.filter_map, List.length_map]
  rfl
theorem keys_get {b : V} (h : O b) (j : Nat) (hj : j < b.ks.length) : getV b b.ks[j] = (b.vs.getD j zeroV, true) := by
  have hl := h.len
  have : (b.ks[j], b.vs[j]'(by omega)) ∈ b.ks.zip b.vs := by
    have : (b.ks.zip b.vs)[j]'(by rw [List.length_zip]; omega) = (b.ks[j], b.vs[j]'(by omega)) := List.getElem_zip
    rw [← this]; exact List.getElem_mem _
  rw [h.mem.2 this, getD_at]
/-- What stays of a content, in what is redacted. -/
theorem event_left {b : V} (hb : O b) (kd : ByteArray) : getV (redP (eventV b kd)) contentB = (pickV b (keptB kd), true) := by
  rw [(event_O b kd).get_red, if_pos contentB_field, event_content, event_type, if_pos ⟨rfl, hb.k⟩]
  rfl
theorem event_get (b : V) (kd : ByteArray) {key : ByteArray} (h1 : key ≠ contentB) (h2 : key ≠ typeB) : getV (eventV b kd) key = (zeroV, false) := by
  unfold eventV
  rw [with_zero, (O.empty.with _ _).get_other h2, O.empty.get_other h1]
  rfl
/-- A create's content stays whole. -/
theorem event_create {b : V} (hb : O b) {kd : ByteArray} (hk : kd.toList = createB.toList) : redP (eventV b kd) = eventV b kd := by
  have ho := event_O b kd
  refine ho.red.ext ho fun key => ?_
  by_cases h1 : key = contentB
  · subst h1
    rw [event_left hb, event_content]
    have : pickV b (keptB kd) = b := (hb.pick _).ext hb fun o => by rw [hb.get_pick, if_pos (keptB_create hk o)]
    rw [this]
  · rw [ho.get_red]
    by_cases h2 : key = typeB
    · subst h2
      rw [if_pos (by kernel_rfl), if_neg (fun h => absurd h.1 (by decide))]
    · rw [event_get b kd h1 h2]
      split
      · rw [if_neg (fun h => h1 h.1)]
      · rfl
theorem keeps_law (c : List Int) (k : Int) (hc : Bys c) (hk0 : 0 ≤ k) (hk1 : k ≤ 255) (H : Hp) (hG : Glob H) : ACall Tryz.prog 4 [u8s c, .v (.int .u8 k)] H (IsR H (.v (.bool true))) := by
  obtain ⟨hbe, hbw⟩ := body_good hc k
  have hbo := body_O c k
  have hbody := fun H => body_spec c hc k hk0 (by omega) H
  have hkind := fun H => kind_spec k hk0 (by omega) H
  have hkl := kindB_le k
  generalize bodyV c k = b at *
  generalize kindB k = kd at *
  have hbf := hbe.fits (by decide)
  have hvo := event_O b kd
  have hve := event_ev hbf kd
  have hvf := hve.fits (by decide)
  have hw1 : ∀ H, ACall Tryz.prog 13 [.agg (encV zeroV), .v (.string contentB), .agg (encV b)] H (IsR H (.agg (encV (withV zeroV contentB b)))) := fun H => withR_spec zeroV (fits_leaf0 _ _ _) (fun s hs => absurd hs List.not_mem_nil) contentB b H
  have he1 : Ev (withV zeroV contentB b) 1 := ev_empty.with (by decide) hbf
  have hw2 : ∀ H, ACall Tryz.prog 13 [.agg (encV (withV zeroV contentB b)), .v (.string typeB), .agg (encV (strV kd))] H (IsR H (.agg (encV (eventV b kd)))) := fun H => withR_spec _ (he1.fits (by decide)) he1.keys typeB (strV kd) H
  have hrf : Fits (redP (eventV b kd)) := red_fits hvf (by have := hve.le; omega)
  have hrv := fun H h => redact_spec (eventV b kd) hvf H h
  have hgc : ∀ H, ACall Tryz.prog 22 [.agg (encV (redP (eventV b kd))), .v (.string contentB)] H (IsR H (.tup [.agg (encV (pickV b (keptB kd))), .v (.bool true)])) := fun H => by
    have := getR_spec _ hrf contentB H
    rwa [event_left hbo] at this
  have hlf : Fits (pickV b (keptB kd)) := pick_fits hbf _
  have hlk := pick_keys hbo (keptB kd)
  have hlo := hbo.pick (keptB kd)
  have hsm : kd.toList = createB.toList → ∀ H, ACall Tryz.prog 18 [.agg (encV (redP (eventV b kd))), .agg (encV (eventV b kd))] H (IsR H (.v (.bool true))) := fun h H => by
    have e : sameV (redP (eventV b kd)) (eventV b kd) = true := by rw [event_create hbo h]; exact same_self _ hvf
    exact e ▸ sameR_spec _ hrf (eventV b kd) H
  have hget : ∀ (j : Nat) (hj : j < b.ks.length) (H : Hp), ACall Tryz.prog 22 [.agg (encV (pickV b (keptB kd))), .v (.string (b.ks.getD j ⟨#[]⟩))] H (IsR H (.tup [.agg (encV (if keptB kd (b.ks.getD j ⟨#[]⟩) = true then b.vs.getD j zeroV else zeroV)), .v (.bool (keptB kd (b.ks.getD j ⟨#[]⟩)))])) := fun j hj H => by
    rw [getD_at (show j < b.ks.length from hj)]
    have := getR_spec _ hlf b.ks[j] H
    rw [hbo.get_pick, keys_get hbo j hj] at this
    cases hg : keptB kd b.ks[j] with
    | true => rw [hg] at this; exact this
    | false => rw [hg] at this; exact this
  have hkp := fun key H h => kept_spec kd key H h
  have hvf2 : ∀ j, j < b.vs.length → Fits (b.vs.getD j zeroV) := fun j hj => hbe.vals _ (getD_mem hj)
  have hbl := hbo.len
  have hb6 := hbe.le
  have hstl := stay_le b.ks (keptB kd)
  have hsts := stay_succ b.ks (keptB kd)
  clear hbo hbe hbw hvo hve hvf he1 hrf hlf
  generalize redP (eventV b kd) = r at *
  generalize eventV b kd = v at *
  generalize withV zeroV contentB b = v1 at *
  generalize hpk : pickV b (keptB kd) = l at *
  have hlform := hlo.form
  have hst0 : stayN b.ks (keptB kd) 0 = 0 := rfl
  generalize keptB kd = g at *
  obtain ⟨bk, bn, bt, bks, bvs⟩ := b
  obtain ⟨lk, ln, lt, lks, lvs⟩ := l
  simp only [vks, vvs] at hlk hget hvf2 hbl hb6 hstl hsts hst0
  generalize hsn : stayN bks g = sn at *
  have hml : (bks.map encS).length = bks.length := List.length_map ..
  have hmv := encVs_len bvs
  have hmll : (lks.map encS).length = lks.length := List.length_map ..
  refine UCall (n := 95) (H0 := H) (objs := []) Tryz.func4 (by kernel_rfl) rfl (by rw [Tryz.ntmps4]; rfl) .nil <| ?_
  refine Q.rg <| Q.as rfl <| Q.nt <| Q.rg <| Q.mv rfl <| Q.mv rfl <| S.qu (Z.call rfl rfl (fun H => hbody H)) <| S.dd <| D.al z26 rfl rfl rfl fun p5 => S.s <| D.st 0 ty26 rfl rfl rfl rfl rfl rfl rfl rfl fun _ => Q.nt <| Q.rg <| Q.mv rfl <| S.qu (Z.call rfl rfl (fun H => hkind H)) <| Q.as rfl <| Q.nt <| Q.rg <| S.qu (Z.bd [] bt26 rfl rfl rfl rfl rfl rfl) <| S.qu (Z.ldw 0 ty26 rfl rfl rfl) <| S.qu (Z.call rfl rfl (fun H => hw1 H)) <| Q.mv rfl <| S.qu (Z.call rfl rfl (fun H => strR_spec kd H)) <| S.qu (Z.call rfl rfl (fun H => hw2 H)) <| S.dd <| D.al z26 rfl rfl rfl fun p7 => S.s <| D.stw 0 ty26 rfl rfl rfl rfl (by exact encV_cell _) (encV_len _) rfl rfl fun _ => ?_
  refine Q.nt <| Q.rg <| S.qu (Z.ldw 0 ty26 rfl rfl (encV_len _)) <| S.qu (Z.callg rfl rfl (fun _ hS => hrv _ (hG.mono hS))) <| S.dd <| D.al z26 rfl rfl rfl fun p8 => S.s <| D.stw 0 ty26 rfl rfl rfl rfl (by exact encV_cell _) (encV_len _) rfl rfl fun _ => ?_
  refine Q.nt <| Q.rg <| S.qu (Z.ldw 0 ty26 rfl rfl (encV_len _)) <| S.qu (Z.call rfl rfl (fun H => hgc H)) <| Q.mv rfl <| S.qu (Z.ex rfl rfl) <| S.qu (Z.ex rfl rfl) <| S.dd <| D.al z26 rfl rfl rfl fun p9 => S.s <| D.st 0 ty26 rfl rfl rfl rfl rfl rfl rfl rfl fun _ => Q.as rfl <| Q.nt <| Q.rg <| Q.as rfl <| Q.nt <| S.sq <| Q.rg <| Q.as rfl <| Q.nt <| UW.block <| S.loop (fun j : Nat => [(12, .v (.int .i64 (j : Int))), (11, .v (.int .i64 ((sn j : Nat) : Int))), (10, .v (.bool true)), (9, .ptr p9 0), (8, .ptr p8 0), (7, .ptr p7 0), (6, .v (.string kd)), (5, .ptr p5 0)]) (fun _ => [(p9, .box 26 (encV (.mk lk ln lt lks lvs))), (p8, .box 26 (encV r)), (p7, .box 26 (encV v)), (p5, .box 26 (encV (.mk bk bn bt bks bvs)))]) (fun j => j ≤ bks.length) (fun j => bks.length - j) 0 (Nat.zero_le _) ⟨rfl, by rw [hst0]; rfl, rfl, rfl, rfl, rfl, rfl, rfl, trivial⟩ (.refl _) <| ?_
  rintro j hj
  have hsl := hstl j
  by_cases hlt : j < bks.length
  · obtain ⟨kj, vj, hgk, hgv, hgt, hs1, hvj⟩ : ∃ kj vj, (bks.map encS)[j]? = some (encS kj) ∧ (encVs bvs)[j]? = some (encV vj) ∧ (∀ H, ACall Tryz.prog 22 [.agg (encV (.mk lk ln lt lks lvs)), .v (.string kj)] H (IsR H (.tup [.agg (encV (if g kj = true then vj else zeroV)), .v (.bool (g kj))]))) ∧ sn (j + 1) = sn j + (if g kj = true then 1 else 0) ∧ Fits vj :=
      ⟨_, _, strs_getD bks j hlt, (getD_at (z := zeroV) (show j < bvs.length by omega)) ▸ encVs_get bvs j (by omega), hget j hlt, hsts j hlt, hvf2 j (by omega)⟩
    have hsj := fun H => sameR_spec vj hvj vj H
    have hss := same_self vj hvj
    cases hg : g kj with
    | true =>
      rw [hg] at hs1 hgt
      rw [if_pos rfl] at hs1
      simp only [if_true] at hgt
      refine S.sq <| Q.rg <| Q.mv rfl <| Q.fa f26_3 rfl <| Q.lc 3 ty23 rfl rfl rfl <| S.qu (Z.lns sl23 rfl) <| Q.bi rfl rfl rfl <| Q.nt <| S.cT rfl (decide_eq_true (by omega)) <| UW.skip <| UQ.then <| S.sq <| UW.block <| S.sq <| ?_
      refine' UW.drawk (by kernel_rfl) [0, 1, 2, 3] [0, 0, 2, 0, 14, 30, 63, 127, 255, 255, 0, 1535, 4095] [some 41, some 42, some 43, some 44, some 45, some 46, some 47, some 40, some 48, some 49, none, none, none] [some (41, _), some (42, _), some (43, _), some (44, _), some (45, _), some (46, _), some (47, _), some (40, _), some (48, _), some (49, _), none, none, none] [10, 11, 12] [] rfl (by decide) (by decide) (QAll.kept (by decide) rfl rfl ?q1x0_0 (QAll.free (by decide) rfl rfl ?q1x0_1 (QAll.kept (by decide) rfl rfl ?q1x0_2 (QAll.free (by decide) rfl rfl ?q1x0_3 (QAll.free (by decide) rfl rfl ?q1x0_4 (QAll.kept (by decide) rfl rfl ?q1x0_5 (QAll.free (by decide) rfl rfl ?q1x0_6 (QAll.free (by decide) rfl rfl ?q1x0_7 (QAll.free (by decide) rfl rfl ?q1x0_8 (QAll.free (by decide) rfl rfl ?q1x0_9 (QAll.skip (QAll.skip (QAll.skip QAll.nil))))))))))))) ?q1x0_k
      case q1x0_0 => (intro _ hK; exact Z.kw 0 hK ty26 rfl rfl rfl)
      case q1x0_1 => (intro _; exact Z.fa f26_3 rfl)
      case q1x0_2 => (intro _ hK; exact Z.kc 3 hK ty23 rfl rfl rfl)
      case q1x0_3 => (intro _; exact Z.mv rfl)
      case q1x0_4 => (intro _; exact Z.ia sl23 rfl rfl (by omega) (by assumption) (by rfl))
      case q1x0_5 => (intro _ hK; exact Z.lpc ty9 rfl)
      case q1x0_6 => (intro _; exact Z.call rfl rfl (fun H => hgt H))
      case q1x0_7 => (intro _; exact Z.mv rfl)
      case q1x0_8 => (intro _; exact Z.ex rfl rfl)
      case q1x0_9 => (intro _; exact Z.ex rfl rfl)
      refine CH.cons rfl rfl (by decide) ?_ (.c 0 rfl (.c 1 rfl (.c 2 rfl (.c 3 rfl .n))))
      refine D.al z26 rfl rfl rfl fun p13 => ?_
      refine CH.cons0 rfl rfl ?_ (.c 1 rfl (.c 2 rfl (.c 3 rfl (.c 4 rfl .n))))
      refine D.stw 0 ty26 rfl rfl rfl rfl (by exact encV_cell _) (encV_len _) rfl rfl fun _ => ?_
      refine CH.cons rfl rfl (by decide) ?_ (.c 1 rfl (.c 2 rfl (.c 3 rfl (.c 4 rfl .n))))
      refine D.qu (Z.as rfl) <| ?_
      refine CH.nil ?_ (.c 1 rfl (.c 2 rfl (.c 3 rfl (.c 4 rfl .n))))
      simp only [app, finL]
      refine UQ.then <| S.sq <| S.sq <| ?_
      refine' UW.draw' (by kernel_rfl) [0, 0, 0, 4, 0, 28, 60, 126, 255, 511, 1023, 2047, 4095, 4095, 12287, 4095, 61439, 126975, 262143, 524287, 1048575, 2097151] [some 50, some 51, some 52, some 53, some 54, some 55, some 56, some 57, some 58, some 59, some 60, some 61, some 62, some 63, some 64, some 65, some 66, some 67, some 68, some 69, some 70, some 71] [some (50, _), some (51, _), some (52, _), some (53, _), some (54, _), some (55, _), some (56, _), some (57, _), some (58, _), some (59, _), some (60, _), some (61, _), some (62, _), some (63, _), some (64, _), some (65, _), some (66, _), some (67, _), some (68, _), some (69, _), some (70, _), some (71, _)] [] [3, 6, 12, 14, 17] rfl (by decide) (by decide) (QAll.free (by decide) rfl rfl ?q1x1_0 (QAll.free (by decide) rfl rfl ?q1x1_1 (QAll.free (by decide) rfl rfl ?q1x1_2 (QAll.held (by decide) rfl rfl ?q1x1_3 (QAll.free (by decide) rfl rfl ?q1x1_4 (QAll.free (by decide) rfl rfl ?q1x1_5 (QAll.held (by decide) rfl rfl ?q1x1_6 (QAll.free (by decide) rfl rfl ?q1x1_7 (QAll.free (by decide) rfl rfl ?q1x1_8 (QAll.free (by decide) rfl rfl ?q1x1_9 (QAll.free (by decide) rfl rfl ?q1x1_10 (QAll.free (by decide) rfl rfl ?q1x1_11 (QAll.held (by decide) rfl rfl ?q1x1_12 (QAll.free (by decide) rfl rfl ?q1x1_13 (QAll.held (by decide) rfl rfl ?q1x1_14 (QAll.free (by decide) rfl rfl ?q1x1_15 (QAll.free (by decide) rfl rfl ?q1x1_16 (QAll.held (by decide) rfl rfl ?q1x1_17 (QAll.free (by decide) rfl rfl ?q1x1_18 (QAll.free (by decide) rfl rfl ?q1x1_19 (QAll.free (by decide) rfl rfl ?q1x1_20 (QAll.free (by decide) rfl rfl ?q1x1_21 QAll.nil)))))))))))))))))))))) ?q1x1_k
      case q1x1_0 => (intro _; exact Z.mv rfl)
      case q1x1_1 => (intro _; exact Z.mv rfl)
      case q1x1_2 => (intro _; exact Z.fa f26_3 rfl)
      case q1x1_3 => exact Z.ldc 4 ty23 rfl rfl rfl
      case q1x1_4 => (intro _; exact Z.mv rfl)
      case q1x1_5 => (intro _; exact Z.ia sl23 rfl rfl (by omega) (by assumption) (by rfl))
      case q1x1_6 => exact Z.lpc ty9 rfl
      case q1x1_7 => (intro _; exact Z.eq (u' := .v (.bool true)) (Z.callg rfl rfl (fun _ hS => hkp kj _ (hG.mono hS))) (by rw [hg]))
      case q1x1_8 => (intro _; exact Z.bne Tryz.underlying4 rfl rfl)
      case q1x1_9 => (intro _; exact Z.mv rfl)
      case q1x1_10 => (intro _; exact Z.on (Z.mv rfl))
      case q1x1_11 => (intro _; exact Z.on (Z.mv rfl))
      case q1x1_12 => exact Z.on (Z.ldw 0 ty26 rfl rfl (encV_len _))
      case q1x1_13 => (intro _; exact Z.on (Z.fa f26_4 rfl))
      case q1x1_14 => exact Z.on (Z.ldc 4 ty24 rfl rfl rfl)
      case q1x1_15 => (intro _; exact Z.on (Z.mv rfl))
      case q1x1_16 => (intro _; exact Z.on (Z.ia sl24 rfl rfl (by omega) (by assumption) (by exact encV_len _)))
      case q1x1_17 => exact Z.on (Z.lpa ty26 rfl (encV_len _))
      case q1x1_18 => (intro _; exact Z.on (Z.eq (u' := .v (.bool true)) (Z.call rfl rfl (fun H => hsj H)) (by rw [hss])))
      case q1x1_19 => (intro _; exact Z.on (Z.not rfl))
      case q1x1_20 => (intro _; exact Z.on (Z.pick rfl rfl))
      case q1x1_21 => (intro _; exact Z.pick rfl rfl)
      refine CH.nil <| ?_
      simp only [app, finL]
      refine UQ.then <| S.cF rfl rfl <| UW.skip <| UQ.then <| Q.rg <| Q.mv rfl <| Q.nt <| S.cT rfl rfl <| S.rg <| Q.mv rfl <| S.qu (Z.eq (u' := .v (.int .i64 ((sn (j + 1) : Nat) : Int))) (Z.add (r := ((sn j + 1 : Nat) : Int)) rfl rfl (IntWalk.i64_in _ (by omega))) (by rw [hs1])) <| ?_
      refine Q.as rfl <| US.nil <| UQ.blockN <| UQ.then <| S.rg <| Q.mv rfl <| S.qu (Z.add (r := ((j + 1 : Nat) : Int)) rfl rfl (IntWalk.i64_in _ (by omega))) <| Q.as rfl <| US.nil <| ?_
      refine S.back (j + 1) ⟨rfl, rfl, rfl, rfl, rfl, rfl, rfl, rfl, trivial⟩ (by repeat (first | exact List.Sublist.refl _ | exact List.nil_sublist _ | refine .cons_cons _ ?_ | refine .cons _ ?_)) (by omega) (by omega)
    | false =>
      rw [hg] at hs1 hgt
      rw [if_neg (by decide)] at hs1
      simp only [Bool.false_eq_true, if_false] at hgt
      rw [show sn j = sn (j + 1) by omega]
      refine S.sq <| Q.rg <| Q.mv rfl <| Q.fa f26_3 rfl <| Q.lc 3 ty23 rfl rfl rfl <| S.qu (Z.lns sl23 rfl) <| Q.bi rfl rfl rfl <| Q.nt <| S.cT rfl (decide_eq_true (by omega)) <| UW.skip <| UQ.then <| S.sq <| UW.block <| S.sq <| ?_
      refine' UW.drawk (by kernel_rfl) [0, 1, 2, 3] [0, 0, 2, 0, 14, 30, 63, 127, 255, 255, 0, 1535, 4095] [some 41, some 42, some 43, some 44, some 45, some 46, some 47, some 40, some 48, some 49, none, none, none] [some (41, _), some (42, _), some (43, _), some (44, _), some (45, _), some (46, _), some (47, _), some (40, _), some (48, _), some (49, _), none, none, none] [10, 11, 12] [] rfl (by decide) (by decide) (QAll.kept (by decide) rfl rfl ?q2x0_0 (QAll.free (by decide) rfl rfl ?q2x0_1 (QAll.kept (by decide) rfl rfl ?q2x0_2 (QAll.free (by decide) rfl rfl ?q2x0_3 (QAll.free (by decide) rfl rfl ?q2x0_4 (QAll.kept (by decide) rfl rfl ?q2x0_5 (QAll.free (by decide) rfl rfl ?q2x0_6 (QAll.free (by decide) rfl rfl ?q2x0_7 (QAll.free (by decide) rfl rfl ?q2x0_8 (QAll.free (by decide) rfl rfl ?q2x0_9 (QAll.skip (QAll.skip (QAll.skip QAll.nil))))))))))))) ?q2x0_k
      case q2x0_0 => (intro _ hK; exact Z.kw 0 hK ty26 rfl rfl rfl)
      case q2x0_1 => (intro _; exact Z.fa f26_3 rfl)
      case q2x0_2 => (intro _ hK; exact Z.kc 3 hK ty23 rfl rfl rfl)
      case q2x0_3 => (intro _; exact Z.mv rfl)
      case q2x0_4 => (intro _; exact Z.ia sl23 rfl rfl (by omega) (by assumption) (by rfl))
      case q2x0_5 => (intro _ hK; exact Z.lpc ty9 rfl)
      case q2x0_6 => (intro _; exact Z.call rfl rfl (fun H => hgt H))
      case q2x0_7 => (intro _; exact Z.mv rfl)
      case q2x0_8 => (intro _; exact Z.ex rfl rfl)
      case q2x0_9 => (intro _; exact Z.ex rfl rfl)
      refine CH.cons rfl rfl (by decide) ?_ (.c 0 rfl (.c 1 rfl (.c 2 rfl (.c 3 rfl .n))))
      refine D.al z26 rfl rfl rfl fun p13 => ?_
      refine CH.cons0 rfl rfl ?_ (.c 1 rfl (.c 2 rfl (.c 3 rfl (.c 4 rfl .n))))
      refine D.st 0 ty26 rfl rfl rfl rfl rfl rfl rfl rfl fun _ => ?_
      refine CH.cons rfl rfl (by decide) ?_ (.c 1 rfl (.c 2 rfl (.c 3 rfl (.c 4 rfl .n))))
      refine D.qu (Z.as rfl) <| ?_
      refine CH.nil ?_ (.c 1 rfl (.c 2 rfl (.c 3 rfl (.c 4 rfl .n))))
      simp only [app, finL]
      refine UQ.then <| S.sq <| S.sq <| ?_
      refine' UW.draw' (by kernel_rfl) [0, 0, 0, 4, 0, 28, 60, 126, 255, 511, 1023, 2047, 4095, 4095, 12287, 4095, 61439, 126975, 262143, 524287, 1048575, 2097151] [some 50, some 51, some 52, some 53, some 54, some 55, some 56, some 57, some 58, some 59, some 60, some 61, some 62, some 63, some 64, some 65, some 66, some 67, some 68, some 69, some 70, some 71] [some (50, _), some (51, _), some (52, _), some (53, _), some (54, _), some (55, _), some (56, _), some (57, _), some (58, _), some (59, _), some (60, _), some (61, _), some (62, _), some (63, _), some (64, _), some (65, _), some (66, _), some (67, _), some (68, _), some (69, _), some (70, _), some (71, _)] [] [3, 6, 12, 14, 17] rfl (by decide) (by decide) (QAll.free (by decide) rfl rfl ?q2x1_0 (QAll.free (by decide) rfl rfl ?q2x1_1 (QAll.free (by decide) rfl rfl ?q2x1_2 (QAll.held (by decide) rfl rfl ?q2x1_3 (QAll.free (by decide) rfl rfl ?q2x1_4 (QAll.free (by decide) rfl rfl ?q2x1_5 (QAll.held (by decide) rfl rfl ?q2x1_6 (QAll.free (by decide) rfl rfl ?q2x1_7 (QAll.free (by decide) rfl rfl ?q2x1_8 (QAll.free (by decide) rfl rfl ?q2x1_9 (QAll.free (by decide) rfl rfl ?q2x1_10 (QAll.free (by decide) rfl rfl ?q2x1_11 (QAll.held (by decide) rfl rfl ?q2x1_12 (QAll.free (by decide) rfl rfl ?q2x1_13 (QAll.held (by decide) rfl rfl ?q2x1_14 (QAll.free (by decide) rfl rfl ?q2x1_15 (QAll.free (by decide) rfl rfl ?q2x1_16 (QAll.held (by decide) rfl rfl ?q2x1_17 (QAll.free (by decide) rfl rfl ?q2x1_18 (QAll.free (by decide) rfl rfl ?q2x1_19 (QAll.free (by decide) rfl rfl ?q2x1_20 (QAll.free (by decide) rfl rfl ?q2x1_21 QAll.nil)))))))))))))))))))))) ?q2x1_k
      case q2x1_0 => (intro _; exact Z.mv rfl)
      case q2x1_1 => (intro _; exact Z.mv rfl)
      case q2x1_2 => (intro _; exact Z.fa f26_3 rfl)
      case q2x1_3 => exact Z.ldc 4 ty23 rfl rfl rfl
      case q2x1_4 => (intro _; exact Z.mv rfl)
      case q2x1_5 => (intro _; exact Z.ia sl23 rfl rfl (by omega) (by assumption) (by rfl))
      case q2x1_6 => exact Z.lpc ty9 rfl
      case q2x1_7 => (intro _; exact Z.eq (u' := .v (.bool false)) (Z.callg rfl rfl (fun _ hS => hkp kj _ (hG.mono hS))) (by rw [hg]))
      case q2x1_8 => (intro _; exact Z.bne Tryz.underlying4 rfl rfl)
      case q2x1_9 => (intro _; exact Z.mv rfl)
      case q2x1_10 => (intro _; exact Z.on (Z.mv rfl))
      case q2x1_11 => (intro _; exact Z.on (Z.mv rfl))
      case q2x1_12 => exact Z.of
      case q2x1_13 => (intro _; exact Z.of)
      case q2x1_14 => exact Z.of
      case q2x1_15 => (intro _; exact Z.of)
      case q2x1_16 => (intro _; exact Z.of)
      case q2x1_17 => exact Z.of
      case q2x1_18 => (intro _; exact Z.of)
      case q2x1_19 => (intro _; exact Z.of)
      case q2x1_20 => (intro _; exact Z.on (Z.pick rfl rfl))
      case q2x1_21 => (intro _; exact Z.pick rfl rfl)
      refine CH.nil <| ?_
      simp only [app, finL]
      refine UQ.then <| S.cF rfl rfl <| UW.skip <| UQ.then <| Q.rg <| Q.mv rfl <| Q.nt <| S.cF rfl rfl <| UW.skip <| UQ.blockN <| UQ.then <| S.rg <| Q.mv rfl <| S.qu (Z.add (r := ((j + 1 : Nat) : Int)) rfl rfl (IntWalk.i64_in _ (by omega))) <| Q.as rfl <| US.nil <| ?_
      refine S.back (j + 1) ⟨rfl, rfl, rfl, rfl, rfl, rfl, rfl, rfl, trivial⟩ (by repeat (first | exact List.Sublist.refl _ | exact List.nil_sublist _ | refine .cons_cons _ ?_ | refine .cons _ ?_)) (by omega) (by omega)
  · have hj2 : j = bks.length := by omega
    have hnl : (((lks.map encS).length : Nat) : Int) = ((sn j : Nat) : Int) := by rw [hmll, hlk, hj2]
    by_cases hcr : kd.toList = createB.toList
    · have hsm2 := hsm hcr
      focus
        refine S.sq <| Q.rg <| Q.mv rfl <| Q.fa f26_3 rfl <| Q.lc 3 ty23 rfl rfl rfl <| S.qu (Z.lns sl23 rfl) <| Q.bi rfl rfl rfl <| Q.nt <| S.cF rfl (decide_eq_false (by omega)) <| UW.exit <| UQ.pass <| UQ.pass <| UQ.here <| UQ.then <| Q.rg <| S.qu (Z.callg rfl rfl (fun _ hS => kn7_spec _ (hG.mono hS))) <| Q.mv rfl <| Q.on (Z.mv rfl) <| Q.pk rfl rfl <| Q.mv rfl <| Q.on (Z.fa f26_3 rfl) <| Q.on (Z.ldc 0 ty23 rfl rfl rfl) <| Q.on (Z.lns sl23 rfl) <| Q.on (Z.mv rfl) <| Q.on (Z.bi rfl rfl rfl) <| Q.pk rfl rfl <| Q.mv rfl <| ?_
        refine S.tE 86 (fun hc86 => ?_) (fun hc86 => ?_)
        rotate_left
        omega
        refine Q.on (Z.mv rfl) <| Q.on (Z.bs rfl rfl rfl) <| Q.on (Z.mv rfl) <| ?_
        refine S.tO 89 (fun hc89 => ?_) (fun hc89 => ?_)
        contradiction
        refine Q.on (Z.ldw 1 ty26 rfl rfl (encV_len _)) <| Q.on (Z.ldw 2 ty26 rfl rfl (encV_len _)) <| Q.on (Z.call rfl rfl (fun H => hsm2 H)) <| Q.on (Z.pick rfl rfl) <| Q.pk rfl rfl <| Q.as rfl <| Q.nt <| UW.ret <| S.rtR (fun _ => res_tmp rfl rfl) <| ?_
        rfl
    · refine S.sq <| Q.rg <| Q.mv rfl <| Q.fa f26_3 rfl <| Q.lc 3 ty23 rfl rfl rfl <| S.qu (Z.lns sl23 rfl) <| Q.bi rfl rfl rfl <| Q.nt <| S.cF rfl (decide_eq_false (by omega)) <| UW.exit <| UQ.pass <| UQ.pass <| UQ.here <| UQ.then <| Q.rg <| S.qu (Z.callg rfl rfl (fun _ hS => kn7_spec _ (hG.mono hS))) <| Q.mv rfl <| Q.on (Z.mv rfl) <| Q.pk rfl rfl <| Q.mv rfl <| Q.on (Z.fa f26_3 rfl) <| Q.on (Z.ldc 0 ty23 rfl rfl rfl) <| Q.on (Z.lns sl23 rfl) <| Q.on (Z.mv rfl) <| Q.on (Z.bi rfl rfl rfl) <| Q.pk rfl rfl <| Q.mv rfl <| S.tT 86 (beq_t (by omega)) <| Q.on (Z.mv rfl) <| Q.on (Z.bs rfl rfl rfl) <| Q.on (Z.mv rfl) <| S.tT 89 (bne_t (by assumption)) <| ?_
      refine Q.of <| Q.of <| Q.of <| Q.on (Z.pick rfl rfl) <| Q.pk rfl rfl <| Q.as rfl <| Q.nt <| UW.ret <| S.rtR (fun _ => res_tmp rfl rfl) <| ?_
      rfl
end Go.Proofs.YtgmfgmbgmjbdhaaGreatDoor
