/- Print of the program and of the document's answer. -/
import Derived.Test.YtgmfgmbgmjbdhaaGreatDoorKx36
import Derived.Test.YtgmfgmbgmjbdhaaGreatDoorKx21
namespace Go.Proofs.YtgmfgmbgmjbdhaaGreatDoor
open Go Go.RowKit Go.Eng
set_option linter.unusedSimpArgs false
set_option linter.unusedVariables false
set_option maxRecDepth 100000
set_option maxHeartbeats 4000000
theorem digits_spec : ∀ (m : Nat) (n : Int) (hm : n.natAbs = m) (h0 : -9223372036854775808 ≤ n) (h1 : n ≤ 9223372036854775807) (H : Hp), ACall Tryz.prog 73 [.v (.int .i64 n)] H (IsR H (.v (.string (decB n)))) := by
  intro m
  induction m using Nat.strongRecOn with
  | _ m ih =>
  intro n hm h0 h1 H
  have hds := decB_size (n.tdiv 10)
  by_cases hn : n < 0
  · by_cases hs : n > -10
    · have e1 : byteB 45 ++ byteB (48 + (0 - n)) = decB n := by rw [Int.zero_sub]; exact dec_ns hn (by omega)
      refine UCall (n := 42) (H0 := H) (objs := []) Tryz.func73 (by kernel_rfl) rfl (by rw [Tryz.ntmps73]; rfl) .nil <| ?_
      refine Q.rg <| Q.as rfl <| Q.nt <| S.sq <| Q.rg <| Q.mv rfl <| Q.bi rfl rfl rfl <| Q.nt <| S.cT rfl (decide_eq_true (by omega)) <| S.sq <| Q.rg <| Q.mv rfl <| Q.bi rfl rfl rfl <| Q.nt <| S.cT rfl (decide_eq_true (by omega)) <| Q.rg <| Q.mv rfl <| S.qu (Z.neg (r := 0 - n) rfl (IntWalk.i64_in _ (by omega))) <| S.qu (Z.cv (r := 0 - n) Tryz.underlying5 rfl (IntWalk.u8_in _ (by omega)) (by kernel_rfl)) <| S.qu (Z.add (r := 48 + (0 - n)) rfl rfl (IntWalk.u8_in _ (by omega))) <| S.qu (Z.bl row22 rfl rfl (lit_ok rfl)) <| S.qu (Z.b2s (s := byteB (48 + (0 - n))) Tryz.underlying22 Tryz.underlying5 Tryz.underlying9 (congrArg some (one_b _ ⟨by omega, by omega⟩))) <| S.qu (Z.eq (u' := .v (.string (decB n))) (Z.cat (p := byteB 45) rfl rfl (by rw [byteB_size, byteB_size]; decide)) (by rw [e1])) <| ?_
      refine Q.as rfl <| Q.nt <| UW.ret <| UQ.passR <| UQ.passR <| S.rtR (fun _ => res_tmp rfl rfl) <| ?_
      rfl
    · have hq : n.tdiv 10 = -((n.natAbs / 10 : Nat) : Int) := by
        rw [show n = -((n.natAbs : Nat) : Int) from by omega, Int.neg_tdiv]
        congr 1
        rw [Int.natAbs_neg, Int.natAbs_natCast]; rfl
      have hr : n.tmod 10 = -((n.natAbs % 10 : Nat) : Int) := by
        rw [show n = -((n.natAbs : Nat) : Int) from by omega, Int.neg_tmod]
        congr 1
        rw [Int.natAbs_neg, Int.natAbs_natCast]; rfl
      have e1 : decB (n.tdiv 10) ++ byteB (48 + (0 - n.tmod 10)) = decB n := by rw [Int.zero_sub]; exact dec_nb (by omega)
      have hds := hds (by omega) (by omega)
      refine UCall (n := 42) (H0 := H) (objs := []) Tryz.func73 (by kernel_rfl) rfl (by rw [Tryz.ntmps73]; rfl) .nil <| ?_
      refine Q.rg <| Q.as rfl <| Q.nt <| S.sq <| Q.rg <| Q.mv rfl <| Q.bi rfl rfl rfl <| Q.nt <| S.cT rfl (decide_eq_true (by omega)) <| S.sq <| Q.rg <| Q.mv rfl <| Q.bi rfl rfl rfl <| Q.nt <| S.cF rfl (decide_eq_false (by omega)) <| UW.skip <| UQ.then <| S.sq <| ?_
      refine' UW.draw' (by kernel_rfl) [0, 1, 3, 0, 8, 24, 56, 120, 248, 504, 1023, 2047] [some 14, some 15, some 16, some 17, some 18, some 19, some 20, some 21, some 22, some 23, some 24, some 2] [some (14, _), some (15, _), some (16, _), some (17, _), some (18, _), some (19, _), some (20, _), some (21, _), some (22, _), some (23, _), some (24, _), some (2, _)] [] [] rfl (by decide) (by decide) (QAll.free (by decide) rfl rfl ?q1x0_0 (QAll.free (by decide) rfl rfl ?q1x0_1 (QAll.free (by decide) rfl rfl ?q1x0_2 (QAll.free (by decide) rfl rfl ?q1x0_3 (QAll.free (by decide) rfl rfl ?q1x0_4 (QAll.free (by decide) rfl rfl ?q1x0_5 (QAll.free (by decide) rfl rfl ?q1x0_6 (QAll.free (by decide) rfl rfl ?q1x0_7 (QAll.free (by decide) rfl rfl ?q1x0_8 (QAll.free (by decide) rfl rfl ?q1x0_9 (QAll.free (by decide) rfl rfl ?q1x0_10 (QAll.free (by decide) rfl rfl ?q1x0_11 QAll.nil)))))))))))) ?q1x0_k
      case q1x0_0 => (intro _; exact Z.mv rfl)
      case q1x0_1 => (intro _; exact Z.eq (u' := .v (.int .i64 (n.tdiv 10))) (Z.bi rfl rfl rfl) (by rw [IntWalk.i64_in _ (by omega)]))
      case q1x0_2 => (intro _; exact Z.call rfl rfl (fun H => ih (n.natAbs / 10) (by omega) (n.tdiv 10) (by omega) (by omega) (by omega) H))
      case q1x0_3 => (intro _; exact Z.mv rfl)
      case q1x0_4 => (intro _; exact Z.bi (vr := .int .i64 (n.tmod 10)) rfl rfl rfl)
      case q1x0_5 => (intro _; exact Z.neg (r := 0 - n.tmod 10) rfl (IntWalk.i64_in _ (by omega)))
      case q1x0_6 => (intro _; exact Z.cv (r := 0 - n.tmod 10) Tryz.underlying5 rfl (IntWalk.u8_in _ (by omega)) (by kernel_rfl))
      case q1x0_7 => (intro _; exact Z.add (r := 48 + (0 - n.tmod 10)) rfl rfl (IntWalk.u8_in _ (by omega)))
      case q1x0_8 => (intro _; exact Z.bl row22 rfl rfl (lit_ok rfl))
      case q1x0_9 => (intro _; exact Z.b2s (s := byteB (48 + (0 - n.tmod 10))) Tryz.underlying22 Tryz.underlying5 Tryz.underlying9 (congrArg some (one_b _ ⟨by omega, by omega⟩)))
      case q1x0_10 => (intro _; exact Z.eq (u' := .v (.string (decB n))) (Z.cat rfl rfl (by rw [byteB_size]; omega)) (by rw [e1]))
      case q1x0_11 => (intro _; exact Z.as rfl)
      refine CH.nil <| ?_
      simp only [app, finL]
      refine UQ.then <| UW.ret <| UQ.passR <| S.rtR (fun _ => res_tmp rfl rfl) <| ?_
      rfl
  · by_cases hs : n < 10
    · have e1 := dec_ps (n := n) (by omega) hs
      refine UCall (n := 42) (H0 := H) (objs := []) Tryz.func73 (by kernel_rfl) rfl (by rw [Tryz.ntmps73]; rfl) .nil <| ?_
      refine Q.rg <| Q.as rfl <| Q.nt <| S.sq <| Q.rg <| Q.mv rfl <| Q.bi rfl rfl rfl <| Q.nt <| S.cF rfl (decide_eq_false (by omega)) <| UW.skip <| UQ.then <| S.sq <| Q.rg <| Q.mv rfl <| Q.bi rfl rfl rfl <| Q.nt <| S.cT rfl (decide_eq_true (by omega)) <| Q.rg <| Q.mv rfl <| S.qu (Z.cv (r := n) Tryz.underlying5 rfl (IntWalk.u8_in _ (by omega)) (by kernel_rfl)) <| S.qu (Z.add (r := 48 + n) rfl rfl (IntWalk.u8_in _ (by omega))) <| S.qu (Z.bl row22 rfl rfl (lit_ok rfl)) <| S.qu (Z.b2s (s := decB n) Tryz.underlying22 Tryz.underlying5 Tryz.underlying9 (congrArg some (e1 ▸ one_b _ ⟨by omega, by omega⟩))) <| Q.as rfl <| Q.nt <| UW.ret <| UQ.passR <| S.rtR (fun _ => res_tmp rfl rfl) <| ?_
      rfl
    · have hq : n.tdiv 10 = n / 10 := Int.tdiv_eq_ediv_of_nonneg (by omega)
      have hr : n.tmod 10 = n % 10 := Int.tmod_eq_emod_of_nonneg (by omega)
      have e1 := dec_pb (n := n) (by omega)
      have hds := hds (by omega) (by omega)
      refine UCall (n := 42) (H0 := H) (objs := []) Tryz.func73 (by kernel_rfl) rfl (by rw [Tryz.ntmps73]; rfl) .nil <| ?_
      refine Q.rg <| Q.as rfl <| Q.nt <| S.sq <| Q.rg <| Q.mv rfl <| Q.bi rfl rfl rfl <| Q.nt <| S.cF rfl (decide_eq_false (by omega)) <| UW.skip <| UQ.then <| S.sq <| Q.rg <| Q.mv rfl <| Q.bi rfl rfl rfl <| Q.nt <| S.cF rfl (decide_eq_false (by omega)) <| UW.skip <| UQ.then <| S.sq <| ?_
      refine' UW.draw' (by kernel_rfl) [0, 1, 3, 0, 8, 24, 56, 120, 248, 511, 1023] [some 32, some 33, some 34, some 35, some 36, some 37, some 38, some 39, some 40, some 41, some 2] [some (32, _), some (33, _), some (34, _), some (35, _), some (36, _), some (37, _), some (38, _), some (39, _), some (40, _), some (41, _), some (2, _)] [] [] rfl (by decide) (by decide) (QAll.free (by decide) rfl rfl ?q3x0_0 (QAll.free (by decide) rfl rfl ?q3x0_1 (QAll.free (by decide) rfl rfl ?q3x0_2 (QAll.free (by decide) rfl rfl ?q3x0_3 (QAll.free (by decide) rfl rfl ?q3x0_4 (QAll.free (by decide) rfl rfl ?q3x0_5 (QAll.free (by decide) rfl rfl ?q3x0_6 (QAll.free (by decide) rfl rfl ?q3x0_7 (QAll.free (by decide) rfl rfl ?q3x0_8 (QAll.free (by decide) rfl rfl ?q3x0_9 (QAll.free (by decide) rfl rfl ?q3x0_10 QAll.nil))))))))))) ?q3x0_k
      case q3x0_0 => (intro _; exact Z.mv rfl)
      case q3x0_1 => (intro _; exact Z.eq (u' := .v (.int .i64 (n.tdiv 10))) (Z.bi rfl rfl rfl) (by rw [IntWalk.i64_in _ (by omega)]))
      case q3x0_2 => (intro _; exact Z.call rfl rfl (fun H => ih (n.natAbs / 10) (by omega) (n.tdiv 10) (by omega) (by omega) (by omega) H))
      case q3x0_3 => (intro _; exact Z.mv rfl)
      case q3x0_4 => (intro _; exact Z.bi (vr := .int .i64 (n.tmod 10)) rfl rfl rfl)
      case q3x0_5 => (intro _; exact Z.cv (r := n.tmod 10) Tryz.underlying5 rfl (IntWalk.u8_in _ (by omega)) (by kernel_rfl))
      case q3x0_6 => (intro _; exact Z.add (r := 48 + n.tmod 10) rfl rfl (IntWalk.u8_in _ (by omega)))
      case q3x0_7 => (intro _; exact Z.bl row22 rfl rfl (lit_ok rfl))
      case q3x0_8 => (intro _; exact Z.b2s (s := byteB (48 + n.tmod 10)) Tryz.underlying22 Tryz.underlying5 Tryz.underlying9 (congrArg some (one_b _ ⟨by omega, by omega⟩)))
      case q3x0_9 => (intro _; exact Z.eq (u' := .v (.string (decB n))) (Z.cat rfl rfl (by rw [byteB_size]; omega)) (by rw [e1]))
      case q3x0_10 => (intro _; exact Z.as rfl)
      refine CH.nil <| ?_
      simp only [app, finL]
      refine UQ.then <| UW.ret <| S.rtR (fun _ => res_tmp rfl rfl) <| ?_
      rfl
theorem joinC_spec (a b : ByteArray) (ha : a.size ≤ 1000) (hb : b.size ≤ 1000) (l : List ByteArray) (hl : l.length ≤ 140737488355328) (hs : (joinB l comma).size ≤ 10000000000000) (i len : Nat) (hle : len = l.length) (H : Hp) (hi : H i = some (.row 9 1 (l.map encS))) : ACall Tryz.prog 80 [.v (.string a), .own i 0 len 1, .v (.string b)] H (IsR H (.v (.string ((a ++ joinB l comma) ++ b)))) := by
  refine UCall (n := 13) (H0 := H) (objs := []) Tryz.func80 (by kernel_rfl) rfl (by rw [Tryz.ntmps80]; rfl) .nil <| ?_
  refine Q.rg <| Q.as rfl <| Q.nt <| Q.rg <| Q.mv rfl <| Q.mv rfl <| S.qu (Z.calld rfl rfl (fun _ => joinOwn_spec l comma hl (by omega) i len hle _ hi)) <| S.qu (Z.cat rfl rfl (by omega)) <| Q.mv rfl <| S.qu (Z.cat rfl rfl (by rw [app_size]; omega)) <| ?_
  refine Q.as rfl <| Q.nt <| UW.ret <| S.rtR (fun _ => res_tmp rfl rfl) <| ?_
  rfl
theorem getD_lt {α : Type} {l : List α} {i : Nat} {z : α} (h : i < l.length) : l.getD i z = l[i] := by simp [List.getD, h]
theorem pr_facts {k n : Int} {t : ByteArray} {ks : List ByteArray} {vs : List V} (hp : Pr (.mk k n t ks vs)) : (-9223372036854775808 ≤ n ∧ n ≤ 9223372036854775807) ∧ t.size ≤ 1000000000 ∧ wtK ks ≤ 1000000000 ∧ ∀ b, sumS (pairP b ks (vs.map printV)) ≤ 1000000000 := by
  have hw := hp.wt
  rw [wtV_mk] at hw
  have hn : (-9223372036854775808 ≤ n ∧ n ≤ 9223372036854775807) := by
    have := hp.num
    cases this with | mk _ _ _ _ _ a b c => exact ⟨a, b⟩
  refine ⟨hn, by omega, by omega, fun b => ?_⟩
  have h1 := pairP_sum b ks (vs.map printV)
  have h2 := sumS_wt vs (fun x hx => printV_size (hp.kid hx).num)
  omega
theorem take_snoc (P : List ByteArray) (j : Nat) (h : j < P.length) : P.take (j + 1) = P.take j ++ [P.getD j ⟨#[]⟩] := by rw [List.take_add_one, List.getElem?_eq_getElem h, getD_lt h]; rfl
theorem row_snoc (P : List ByteArray) (j : Nat) (h : j < P.length) (x : ByteArray) (hx : P.getD j ⟨#[]⟩ = x) : ((P.take j).map encS).take j ++ [[.v (.string x)]] = (P.take (j + 1)).map encS := by
  rw [take_snoc P j h, hx, List.map_append, List.take_of_length_le (by rw [List.length_map, List.length_take]; omega)]; rfl
theorem print_spec (x : V) (hf : Fits x) : ∀ (hp : Pr x) (H : Hp) (hG : Glob H), ACall Tryz.prog 40 [.agg (encV x)] H (IsR H (.v (.string (printV x)))) := by
  induction hf with
  | mk k n t ks vs hl1 hl2 hkid ih =>
  intro hp H hG
  obtain ⟨hn, ht, hwk, hsum⟩ := pr_facts hp
  have hsum := hsum (decide (k = 5))
  have hvl := encVs_len vs
  have hkl : (ks.map encS).length = ks.length := List.length_map ..
  have hPl : (pairP (decide (k = 5)) ks (vs.map printV)).length = vs.length := by rw [pairP_len, List.length_map]
  refine UCall (n := 67) (H0 := H) (objs := []) Tryz.func40 (by kernel_rfl) rfl (by rw [Tryz.ntmps40]; rfl) .nil <| ?_
  refine Q.rg <| S.dd <| D.box rfl rfl rfl fun p1 => Q.as rfl <| Q.nt <| Q.rg <| Q.as rfl <| US.nilOwn 3 9 1 (by decide) rfl fun p3 => Q.nt <| S.sq <| Q.rg <| Q.fa f26_4 rfl <| Q.lc 1 ty24 rfl rfl rfl <| S.qu (Z.lns sl24 rfl) <| Q.mv rfl <| Q.nt <| UW.block <| S.loop (fun j : Nat × Nat => [(10, .v (.int .i64 (j.1 : Int))), (9, .v (.int .i64 ((encVs vs).length : Int))), (8, .sl (encVs vs)), (3, .own j.2 0 j.1 1), (1, .ptr p1 0)]) (fun j => [(j.2, .row 9 1 (((pairP (decide (k = 5)) ks (vs.map printV)).take j.1).map encS)), (p1, .box 26 (encV (.mk k n t ks vs)))]) (fun j => j.1 ≤ vs.length) (fun j => vs.length - j.1) (0, p3) (Nat.zero_le _) ⟨rfl, rfl, rfl, rfl, rfl, trivial⟩ (.refl _) <| ?_
  rintro ⟨j, r⟩ hj
  dsimp only at hj ⊢
  have hrl : (((pairP (decide (k = 5)) ks (vs.map printV)).take j).map encS).length = j := by rw [List.length_map, List.length_take]; omega
  by_cases hlt : j < vs.length
  · have hgl := encVs_get vs j hlt
    have hat := pairP_at (decide (k = 5)) ks (vs.map printV) j (by rw [List.length_map]; exact hlt)
    have hsz := sumS_at (pairP (decide (k = 5)) ks (vs.map printV)) j (by omega)
    rw [← getD_lt (z := ⟨#[]⟩), hat] at hsz
    have hpj : (vs.map printV).getD j ⟨#[]⟩ = printV vs[j] := by rw [getD_lt (by rw [List.length_map]; exact hlt), List.getElem_map]
    rw [hpj] at hat hsz
    by_cases hb : k = 5 ∧ j < ks.length
    · have hgk := strs_get ks j hb.2
      have hkb := wtK_at ks j hb.2
      rw [if_pos ⟨decide_eq_true hb.1, hb.2⟩, getD_lt hb.2] at hat hsz
      rw [app_size, app_size, byteB_size] at hsz
      have hsn := row_snoc _ j (by omega) _ hat
      focus
        refine Q.rg <| Q.bi rfl rfl rfl <| Q.nt <| S.sq <| S.cT rfl (decide_eq_true (by omega)) <| UW.skip <| UQ.then <| S.sq <| UW.block <| Q.rg <| Q.mv rfl <| S.qu (Z.ia sl24 rfl rfl (by omega) (by assumption) (by exact encV_len _)) <| ?_
        refine S.qu (Z.lpa ty26 rfl (encV_len _)) <| S.dd <| D.al z26 rfl rfl rfl fun p5 => Q.as rfl <| S.s <| D.stw 0 ty26 rfl rfl rfl rfl (by exact encV_cell _) (encV_len _) rfl rfl fun _ => ?_
        refine Q.nt <| Q.rg <| S.qu (Z.ldw 0 ty26 rfl rfl (encV_len _)) <| S.qu (Z.callg rfl rfl (fun _ hS => ih _ (List.getElem_mem hlt) (hp.kid (List.getElem_mem hlt)) _ (hG.mono hS))) <| Q.as rfl <| Q.nt <| S.sq <| Q.rg <| Q.fa f26_0 rfl <| Q.lc 2 ty3 rfl rfl rfl <| Q.bi rfl rfl rfl <| Q.mv rfl <| ?_
        refine S.tE 20 (fun hc20 => ?_) (fun hc20 => ?_)
        rotate_left
        omega
        refine Q.on (Z.mv rfl) <| Q.on (Z.fa f26_3 rfl) <| Q.on (Z.ldc 2 ty23 rfl rfl rfl) <| Q.on (Z.lns sl23 rfl) <| Q.on (Z.bi rfl rfl rfl) <| Q.pk rfl rfl <| Q.nt <| S.cT rfl (decide_eq_true (by omega)) <| S.rg <| Q.fa f26_3 rfl <| Q.lc 2 ty23 rfl rfl rfl <| Q.mv rfl <| S.qu (Z.ia sl23 rfl rfl (by omega) (by assumption) (by rfl)) <| ?_
        refine S.qu (Z.lpc ty9 rfl) <| S.qu (Z.call rfl rfl (fun _ => quote_spec _ (by omega) _)) <| S.qu (Z.cat (q := byteB 58) rfl rfl (by rw [byteB_size]; omega)) <| ?_
        refine Q.mv rfl <| S.qu (Z.cat rfl rfl (by rw [app_size, byteB_size]; omega)) <| ?_
        refine Q.as rfl <| Q.nt <| S.rg <| Q.mv rfl <| Q.mv rfl <| S.qu (Z.bl row23 rfl rfl (lit_ok rfl)) <| S.dd <| D.ap 1 row23 rfl rfl (by omega) rfl (.sl (lit_sz rfl)) (by first | omega | (simp; omega)) hsn fun p39 => ?_
        refine Q.as rfl <| US.nil <| UQ.blockN <| UQ.then <| S.rg <| S.qu (Z.add (r := ((j + 1 : Nat) : Int)) rfl rfl (IntWalk.i64_in _ (by omega))) <| Q.mv rfl <| US.nil <| ?_
        refine S.back (j + 1, p39) ⟨rfl, rfl, rfl, rfl, rfl, trivial⟩ (by repeat (first | exact List.Sublist.refl _ | exact List.nil_sublist _ | refine .cons_cons _ ?_ | refine .cons _ ?_)) (by omega) (by omega)
    · rw [if_neg (fun h => hb ⟨of_decide_eq_true h.1, h.2⟩)] at hat hsz
      have hsn := row_snoc _ j (by omega) _ hat
      refine Q.rg <| Q.bi rfl rfl rfl <| Q.nt <| S.sq <| S.cT rfl (decide_eq_true (by omega)) <| UW.skip <| UQ.then <| S.sq <| UW.block <| Q.rg <| Q.mv rfl <| S.qu (Z.ia sl24 rfl rfl (by omega) (by assumption) (by exact encV_len _)) <| ?_
      refine S.qu (Z.lpa ty26 rfl (encV_len _)) <| S.dd <| D.al z26 rfl rfl rfl fun p5 => Q.as rfl <| S.s <| D.stw 0 ty26 rfl rfl rfl rfl (by exact encV_cell _) (encV_len _) rfl rfl fun _ => ?_
      refine Q.nt <| Q.rg <| S.qu (Z.ldw 0 ty26 rfl rfl (encV_len _)) <| S.qu (Z.callg rfl rfl (fun _ hS => ih _ (List.getElem_mem hlt) (hp.kid (List.getElem_mem hlt)) _ (hG.mono hS))) <| Q.as rfl <| Q.nt <| S.sq <| Q.rg <| Q.fa f26_0 rfl <| Q.lc 2 ty3 rfl rfl rfl <| Q.bi rfl rfl rfl <| Q.mv rfl <| ?_
      refine S.tE 20 (fun hc20 => ?_) (fun hc20 => ?_)
      refine Q.on (Z.mv rfl) <| Q.on (Z.fa f26_3 rfl) <| Q.on (Z.ldc 2 ty23 rfl rfl rfl) <| Q.on (Z.lns sl23 rfl) <| Q.on (Z.bi rfl rfl rfl) <| Q.pk rfl rfl <| Q.nt <| S.cF rfl (decide_eq_false (by omega)) <| UW.skip <| UQ.then <| S.rg <| Q.mv rfl <| Q.mv rfl <| S.qu (Z.bl row23 rfl rfl (lit_ok rfl)) <| S.dd <| D.ap 1 row23 rfl rfl (by omega) rfl (.sl (lit_sz rfl)) (by first | omega | (simp; omega)) hsn fun p39 => ?_
      refine Q.as rfl <| US.nil <| UQ.blockN <| UQ.then <| S.rg <| S.qu (Z.add (r := ((j + 1 : Nat) : Int)) rfl rfl (IntWalk.i64_in _ (by omega))) <| Q.mv rfl <| US.nil <| ?_
      refine S.back (j + 1, p39) ⟨rfl, rfl, rfl, rfl, rfl, trivial⟩ (by repeat (first | exact List.Sublist.refl _ | exact List.nil_sublist _ | refine .cons_cons _ ?_ | refine .cons _ ?_)) (by omega) (by omega)
      refine Q.of <| Q.of <| Q.of <| Q.of <| Q.of <| Q.pk rfl rfl <| Q.nt <| S.cF rfl rfl <| UW.skip <| UQ.then <| S.rg <| Q.mv rfl <| Q.mv rfl <| S.qu (Z.bl row23 rfl rfl (lit_ok rfl)) <| S.dd <| D.ap 1 row23 rfl rfl (by omega) rfl (.sl (lit_sz rfl)) (by first | omega | (simp; omega)) hsn fun p39 => ?_
      refine Q.as rfl <| US.nil <| UQ.blockN <| UQ.then <| S.rg <| S.qu (Z.add (r := ((j + 1 : Nat) : Int)) rfl rfl (IntWalk.i64_in _ (by omega))) <| Q.mv rfl <| US.nil <| ?_
      refine S.back (j + 1, p39) ⟨rfl, rfl, rfl, rfl, rfl, trivial⟩ (by repeat (first | exact List.Sublist.refl _ | exact List.nil_sublist _ | refine .cons_cons _ ?_ | refine .cons _ ?_)) (by omega) (by omega)
  · have hjl : j = vs.length := by omega
    have hall : (pairP (decide (k = 5)) ks (vs.map printV)).take j = pairP (decide (k = 5)) ks (vs.map printV) := List.take_of_length_le (by omega)
    rw [hall]
    rw [hall] at hrl
    have hjs := joinB_size (pairP (decide (k = 5)) ks (vs.map printV))
    by_cases hk5 : k = 5
    · rw [decide_eq_true hk5] at hjs hPl hsum hrl ⊢
      refine Q.rg <| Q.bi rfl rfl rfl <| Q.nt <| S.sq <| S.cF rfl (decide_eq_false (by omega)) <| UW.exit <| UQ.pass <| UQ.pass <| UQ.here <| UQ.then <| S.sq <| Q.rg <| Q.fa f26_0 rfl <| Q.lc 1 ty3 rfl rfl rfl <| Q.nt <| UW.block <| Q.rg <| Q.bi rfl rfl rfl <| Q.as rfl <| Q.nt <| S.cF rfl (beq_f (by omega)) <| Q.rg <| Q.bi rfl rfl rfl <| Q.as rfl <| Q.nt <| S.cF rfl (beq_f (by omega)) <| Q.rg <| Q.bi rfl rfl rfl <| Q.as rfl <| Q.nt <| S.cF rfl (beq_f (by omega)) <| Q.rg <| Q.bi rfl rfl rfl <| Q.as rfl <| Q.nt <| S.cF rfl (beq_f (by omega)) <| Q.rg <| Q.bi rfl rfl rfl <| Q.as rfl <| Q.nt <| S.cT rfl (beq_t (by omega)) <| Q.rg <| Q.mv rfl <| S.qu (Z.calld rfl rfl (fun hd => joinC_spec (byteB 123) (byteB 125) (by decide) (by decide) _ (by omega) (by omega) r j (by omega) _ (hd.at_ (k := 0) rfl))) <| Q.as rfl <| Q.nt <| UW.ret <| UQ.blockR <| UQ.passR <| S.rtR (fun _ => res_tmp rfl rfl) <| ?_
      focus ((congr 2; rw [printV_mk]; unfold prB; (repeat' split) <;> first | rfl | omega); done)
    · rw [decide_eq_false hk5] at hjs hPl hsum hrl ⊢
      refine Q.rg <| Q.bi rfl rfl rfl <| Q.nt <| S.sq <| S.cF rfl (decide_eq_false (by omega)) <| UW.exit <| UQ.pass <| UQ.pass <| UQ.here <| UQ.then <| S.sq <| Q.rg <| Q.fa f26_0 rfl <| Q.lc 1 ty3 rfl rfl rfl <| Q.nt <| UW.block <| Q.rg <| Q.bi rfl rfl rfl <| Q.as rfl <| Q.nt <| ?_
      refine S.cE rfl (fun hc43 => ?_) (fun hc43 => ?_)
      refine Q.rg <| Q.as rfl <| Q.nt <| UW.ret <| UQ.blockR <| UQ.passR <| S.rtR (fun _ => res_tmp rfl rfl) <| ?_
      focus ((congr 2; rw [printV_mk]; unfold prB; (repeat' split) <;> first | rfl | omega); done)
      refine Q.rg <| Q.bi rfl rfl rfl <| Q.as rfl <| Q.nt <| ?_
      refine S.cE rfl (fun hc45 => ?_) (fun hc45 => ?_)
      refine Q.rg <| Q.fa f26_1 rfl <| Q.lc 1 ty2 rfl rfl rfl <| Q.bi rfl rfl rfl <| S.qu (Z.call rfl rfl (fun _ => formatBool_spec _ _)) <| Q.as rfl <| Q.nt <| UW.ret <| UQ.blockR <| UQ.passR <| S.rtR (fun _ => res_tmp rfl rfl) <| ?_
      focus ((congr 2; rw [printV_mk]; unfold prB; (repeat' split) <;> first | rfl | omega); done)
      refine Q.rg <| Q.bi rfl rfl rfl <| Q.as rfl <| Q.nt <| ?_
      refine S.cE rfl (fun hc51 => ?_) (fun hc51 => ?_)
      refine Q.rg <| Q.fa f26_1 rfl <| Q.lc 1 ty2 rfl rfl rfl <| S.qu (Z.callg rfl rfl (fun _ hS => formatInt_spec n hn.1 hn.2 _ (hG.mono hS))) <| Q.as rfl <| Q.nt <| UW.ret <| UQ.blockR <| UQ.passR <| S.rtR (fun _ => res_tmp rfl rfl) <| ?_
      focus ((congr 2; rw [printV_mk]; unfold prB; (repeat' split) <;> first | rfl | omega); done)
      refine Q.rg <| Q.bi rfl rfl rfl <| Q.as rfl <| Q.nt <| ?_
      refine S.cE rfl (fun hc56 => ?_) (fun hc56 => ?_)
      refine Q.rg <| Q.fa f26_2 rfl <| Q.lc 1 ty9 rfl rfl rfl <| S.qu (Z.call rfl rfl (fun _ => quote_spec _ (by omega) _)) <| Q.as rfl <| Q.nt <| UW.ret <| UQ.blockR <| UQ.passR <| S.rtR (fun _ => res_tmp rfl rfl) <| ?_
      focus ((congr 2; rw [printV_mk]; unfold prB; (repeat' split) <;> first | rfl | omega); done)
      refine Q.rg <| Q.bi rfl rfl rfl <| Q.as rfl <| Q.nt <| S.cF rfl (beq_f (by omega)) <| UW.skip <| UQ.blockN <| UQ.then <| Q.rg <| Q.mv rfl <| S.qu (Z.calld rfl rfl (fun hd => joinC_spec (byteB 91) (byteB 93) (by decide) (by decide) _ (by omega) (by omega) r j (by omega) _ (hd.at_ (k := 0) rfl))) <| Q.as rfl <| Q.nt <| UW.ret <| S.rtR (fun _ => res_tmp rfl rfl) <| ?_
      focus ((congr 2; rw [printV_mk]; unfold prB; (repeat' split) <;> first | rfl | omega); done)
theorem pr_true {k n : Int} {t : ByteArray} {ks : List ByteArray} {vs : List V} (h1 : k = 1) (h2 : n = 1) : printV (.mk k n t ks vs) = ⟨#[116, 114, 117, 101]⟩ := by
  subst h1 h2
  rw [printV_mk]
  show truthB true = _
  kernel_rfl
theorem pr_false {k n : Int} {t : ByteArray} {ks : List ByteArray} {vs : List V} (h1 : k = 1) (h2 : ¬ n = 1) : printV (.mk k n t ks vs) = ⟨#[102, 97, 108, 115, 101]⟩ := by
  subst h1
  rw [printV_mk]
  show truthB (n == 1) = _
  rw [show (n == 1) = false from by simpa using h2]
  kernel_rfl
theorem nil_app (a : ByteArray) : joinB [] comma ++ a = a := ba_ext (by rw [ba_app]; rfl)
theorem take_join (P : List ByteArray) (j : Nat) (h : j < P.length) (x : ByteArray) (hx : P.getD j ⟨#[]⟩ = x) (h0 : 0 < j) : (joinB (P.take j) comma ++ comma) ++ x = joinB (P.take (j + 1)) comma := by
  rw [take_snoc P j h, hx, join_snoc, if_neg (fun h1 => by have := congrArg List.length h1; rw [List.length_take, List.length_nil] at this; omega)]
theorem take_join0 (P : List ByteArray) (h : 0 < P.length) (x : ByteArray) (hx : P.getD 0 ⟨#[]⟩ = x) : x = joinB (P.take (0 + 1)) comma := by
  rw [take_snoc P 0 h, hx, List.take_zero, join_snoc, if_pos rfl]
theorem printR_spec (x : V) (hf : Fits x) : ∀ (hp : Pr x) (H : Hp), ACall Tryz.prog 37 [.agg (encV x)] H (IsR H (.v (.string (printV x)))) := by
  induction hf with
  | mk k n t ks vs hl1 hl2 hkid ih =>
  intro hp H
  obtain ⟨hn, ht, hwk, hsum⟩ := pr_facts hp
  have hsum := hsum (decide (k = 5))
  have hvl := encVs_len vs
  have hkl : (ks.map encS).length = ks.length := List.length_map ..
  have hPl : (pairP (decide (k = 5)) ks (vs.map printV)).length = vs.length := by rw [pairP_len, List.length_map]
  refine UCall (n := 71) (H0 := H) (objs := []) Tryz.func37 (by kernel_rfl) rfl (by rw [Tryz.ntmps37]; rfl) .nil <| ?_
  refine Q.rg <| S.dd <| D.box rfl rfl rfl fun p1 => Q.as rfl <| Q.nt <| S.sq <| Q.rg <| Q.fa f26_0 rfl <| Q.lc 0 ty3 rfl rfl rfl <| Q.nt <| UW.block <| Q.rg <| Q.bi rfl rfl rfl <| Q.as rfl <| Q.nt <| ?_
  refine S.cE rfl (fun hc7 => ?_) (fun hc7 => ?_)
  refine Q.rg <| Q.as rfl <| Q.nt <| UW.ret <| UQ.blockR <| UQ.passR <| S.rtR (fun _ => res_tmp rfl rfl) <| ?_
  focus ((congr 2; rw [printV_mk]; unfold prB; (repeat' split) <;> first | rfl | omega); done)
  refine Q.rg <| Q.bi rfl rfl rfl <| Q.as rfl <| Q.nt <| ?_
  refine S.cE rfl (fun hc9 => ?_) (fun hc9 => ?_)
  refine S.sq <| Q.rg <| Q.fa f26_1 rfl <| Q.lc 0 ty2 rfl rfl rfl <| Q.bi rfl rfl rfl <| Q.nt <| ?_
  refine S.cE rfl (fun hc13 => ?_) (fun hc13 => ?_)
  refine Q.rg <| Q.as rfl <| Q.nt <| UW.ret <| UQ.passR <| UQ.blockR <| UQ.passR <| S.rtR (fun _ => res_tmp rfl rfl) <| ?_
  focus (rw [pr_true (by assumption) (by assumption)]; done)
  refine UW.skip <| UQ.then <| Q.rg <| Q.as rfl <| Q.nt <| UW.ret <| UQ.blockR <| UQ.passR <| S.rtR (fun _ => res_tmp rfl rfl) <| ?_
  focus (rw [pr_false (by assumption) (by assumption)]; done)
  refine Q.rg <| Q.bi rfl rfl rfl <| Q.as rfl <| Q.nt <| ?_
  refine S.cE rfl (fun hc14 => ?_) (fun hc14 => ?_)
  refine Q.rg <| Q.fa f26_1 rfl <| Q.lc 0 ty2 rfl rfl rfl <| S.qu (Z.call rfl rfl (fun _ => digits_spec _ n rfl hn.1 hn.2 _)) <| Q.as rfl <| Q.nt <| UW.ret <| UQ.blockR <| UQ.passR <| S.rtR (fun _ => res_tmp rfl rfl) <| ?_
  focus ((congr 2; rw [printV_mk]; unfold prB; (repeat' split) <;> first | rfl | omega); done)
  refine Q.rg <| Q.bi rfl rfl rfl <| Q.as rfl <| Q.nt <| ?_
  refine S.cE rfl (fun hc19 => ?_) (fun hc19 => ?_)
  refine Q.rg <| Q.fa f26_2 rfl <| Q.lc 0 ty9 rfl rfl rfl <| S.qu (Z.call rfl rfl (fun _ => quoteR_spec _ (by omega) _)) <| Q.as rfl <| Q.nt <| UW.ret <| UQ.blockR <| UQ.passR <| S.rtR (fun _ => res_tmp rfl rfl) <| ?_
  focus ((congr 2; rw [printV_mk]; unfold prB; (repeat' split) <;> first | rfl | omega); done)
  refine UW.skip <| UQ.blockN <| UQ.then <| Q.rg <| Q.as rfl <| Q.nt <| S.sq <| Q.rg <| Q.as rfl <| Q.nt <| UW.block <| S.loop (fun j : Nat => [(4, .v (.int .i64 (j : Int))), (3, .v (.string (joinB ((pairP (decide (k = 5)) ks (vs.map printV)).take j) comma))), (1, .ptr p1 0)]) (fun j => [(p1, .box 26 (encV (.mk k n t ks vs)))]) (fun j => j ≤ vs.length) (fun j => vs.length - j) 0 (Nat.zero_le _) ⟨rfl, rfl, rfl, trivial⟩ (.refl _) <| ?_
  rintro j hj
  have hjs := joinB_size ((pairP (decide (k = 5)) ks (vs.map printV)).take j)
  have hjt := sumS_take (pairP (decide (k = 5)) ks (vs.map printV)) j
  by_cases hlt : j < vs.length
  · have hgl := encVs_get vs j hlt
    have hat := pairP_at (decide (k = 5)) ks (vs.map printV) j (by rw [List.length_map]; exact hlt)
    have hsz := sumS_at (pairP (decide (k = 5)) ks (vs.map printV)) j (by omega)
    rw [← getD_lt (z := ⟨#[]⟩), hat] at hsz
    have hpj : (vs.map printV).getD j ⟨#[]⟩ = printV vs[j] := by rw [getD_lt (by rw [List.length_map]; exact hlt), List.getElem_map]
    rw [hpj] at hat hsz
    by_cases hb : k = 5 ∧ j < ks.length
    · have hgk := strs_get ks j hb.2
      have hkb := wtK_at ks j hb.2
      rw [if_pos ⟨decide_eq_true hb.1, hb.2⟩, getD_lt hb.2] at hat hsz
      rw [app_size, app_size, byteB_size] at hsz
      by_cases h0 : 0 < j
      · have hst : (((joinB ((pairP (decide (k = 5)) ks (vs.map printV)).take j) comma ++ comma) ++ quoteB ks[j]) ++ byteB 58) ++ printV vs[j] = joinB ((pairP (decide (k = 5)) ks (vs.map printV)).take (j + 1)) comma := by
          rw [← take_join _ j (by omega) _ hat h0]; simp only [ByteArray.append_assoc]
        focus
          refine S.sq <| Q.rg <| Q.mv rfl <| Q.fa f26_4 rfl <| Q.lc 0 ty24 rfl rfl rfl <| S.qu (Z.lns sl24 rfl) <| Q.bi rfl rfl rfl <| Q.nt <| S.cT rfl (decide_eq_true (by omega)) <| UW.skip <| UQ.then <| S.sq <| UW.block <| S.sq <| Q.rg <| Q.mv rfl <| Q.bi rfl rfl rfl <| Q.nt <| S.cT rfl (decide_eq_true (by omega)) <| S.rg <| Q.mv rfl <| S.qu (Z.cat (q := comma) rfl rfl (by show _ + 1 ≤ _; omega)) <| ?_
          refine Q.as rfl <| Q.nt <| S.sq <| Q.rg <| Q.fa f26_0 rfl <| Q.lc 0 ty3 rfl rfl rfl <| Q.bi rfl rfl rfl <| Q.mv rfl <| ?_
          refine S.tE 38 (fun hc38 => ?_) (fun hc38 => ?_)
          rotate_left
          omega
          refine Q.on (Z.mv rfl) <| Q.on (Z.fa f26_3 rfl) <| Q.on (Z.ldc 0 ty23 rfl rfl rfl) <| Q.on (Z.lns sl23 rfl) <| Q.on (Z.bi rfl rfl rfl) <| Q.pk rfl rfl <| Q.nt <| S.cT rfl (decide_eq_true (by omega)) <| S.rg <| Q.mv rfl <| Q.fa f26_3 rfl <| Q.lc 0 ty23 rfl rfl rfl <| Q.mv rfl <| S.qu (Z.ia sl23 rfl rfl (by omega) (by assumption) (by rfl)) <| ?_
          refine S.qu (Z.lpc ty9 rfl) <| S.qu (Z.call rfl rfl (fun _ => quoteR_spec _ (by omega) _)) <| S.qu (Z.cat rfl rfl (by rw [app_size]; show _ + 1 + _ ≤ _; omega)) <| ?_
          refine S.qu (Z.cat (q := byteB 58) rfl rfl (by rw [app_size, app_size, byteB_size]; show _ + 1 + _ + 1 ≤ _; omega)) <| ?_
          refine Q.as rfl <| Q.nt <| S.rg <| Q.mv rfl <| Q.fa f26_4 rfl <| Q.lc 0 ty24 rfl rfl rfl <| Q.mv rfl <| S.qu (Z.ia sl24 rfl rfl (by omega) (by assumption) (by exact encV_len _)) <| ?_
          refine S.qu (Z.lpa ty26 rfl (encV_len _)) <| S.qu (Z.call rfl rfl (fun _ => ih _ (List.getElem_mem hlt) (hp.kid (List.getElem_mem hlt)) _)) <| S.qu (Z.eq (u' := .v (.string (joinB ((pairP (decide (k = 5)) ks (vs.map printV)).take (j + 1)) comma))) (Z.cat rfl rfl (by rw [app_size, app_size, app_size, byteB_size]; show _ + 1 + _ + 1 + _ ≤ _; omega)) (by rw [hst])) <| ?_
          refine Q.as rfl <| US.nil <| UQ.blockN <| UQ.then <| S.rg <| Q.mv rfl <| S.qu (Z.add (r := ((j + 1 : Nat) : Int)) rfl rfl (IntWalk.i64_in _ (by omega))) <| Q.as rfl <| US.nil <| ?_
          refine S.back _ ⟨rfl, rfl, rfl, trivial⟩ (.refl _) (by omega) (by omega)
      · have hj0 : j = 0 := by omega
        subst hj0
        have hst : ((joinB [] comma ++ quoteB ks[0]) ++ byteB 58) ++ printV vs[0] = joinB ((pairP (decide (k = 5)) ks (vs.map printV)).take (0 + 1)) comma := by
          rw [← take_join0 _ (by omega) _ hat, nil_app]
        focus
          refine S.sq <| Q.rg <| Q.mv rfl <| Q.fa f26_4 rfl <| Q.lc 0 ty24 rfl rfl rfl <| S.qu (Z.lns sl24 rfl) <| Q.bi rfl rfl rfl <| Q.nt <| S.cT rfl (decide_eq_true (by omega)) <| UW.skip <| UQ.then <| S.sq <| UW.block <| S.sq <| Q.rg <| Q.mv rfl <| Q.bi rfl rfl rfl <| Q.nt <| S.cF rfl (decide_eq_false (by omega)) <| UW.skip <| UQ.then <| S.sq <| Q.rg <| Q.fa f26_0 rfl <| Q.lc 0 ty3 rfl rfl rfl <| Q.bi rfl rfl rfl <| Q.mv rfl <| ?_
          refine S.tE 38 (fun hc38 => ?_) (fun hc38 => ?_)
          rotate_left
          omega
          refine Q.on (Z.mv rfl) <| Q.on (Z.fa f26_3 rfl) <| Q.on (Z.ldc 0 ty23 rfl rfl rfl) <| Q.on (Z.lns sl23 rfl) <| Q.on (Z.bi rfl rfl rfl) <| Q.pk rfl rfl <| Q.nt <| S.cT rfl (decide_eq_true (by omega)) <| S.rg <| Q.mv rfl <| Q.fa f26_3 rfl <| Q.lc 0 ty23 rfl rfl rfl <| Q.mv rfl <| S.qu (Z.ia sl23 rfl rfl (by omega) (by assumption) (by rfl)) <| ?_
          refine S.qu (Z.lpc ty9 rfl) <| S.qu (Z.call rfl rfl (fun _ => quoteR_spec _ (by omega) _)) <| S.qu (Z.cat (p := joinB [] comma) rfl rfl (by rw [show (joinB [] comma).size = 0 from rfl]; omega)) <| ?_
          refine S.qu (Z.cat (q := byteB 58) rfl rfl (by rw [nil_app, byteB_size]; omega)) <| ?_
          refine Q.as rfl <| Q.nt <| S.rg <| Q.mv rfl <| Q.fa f26_4 rfl <| Q.lc 0 ty24 rfl rfl rfl <| Q.mv rfl <| S.qu (Z.ia sl24 rfl rfl (by omega) (by assumption) (by exact encV_len _)) <| ?_
          refine S.qu (Z.lpa ty26 rfl (encV_len _)) <| S.qu (Z.call rfl rfl (fun _ => ih _ (List.getElem_mem hlt) (hp.kid (List.getElem_mem hlt)) _)) <| S.qu (Z.eq (u' := .v (.string (joinB ((pairP (decide (k = 5)) ks (vs.map printV)).take (0 + 1)) comma))) (Z.cat rfl rfl (by rw [nil_app, app_size, byteB_size]; omega)) (by rw [hst])) <| ?_
          refine Q.as rfl <| US.nil <| UQ.blockN <| UQ.then <| S.rg <| Q.mv rfl <| S.qu (Z.add (r := ((0 + 1 : Nat) : Int)) rfl rfl (IntWalk.i64_in _ (by omega))) <| Q.as rfl <| US.nil <| ?_
          refine S.back _ ⟨rfl, rfl, rfl, trivial⟩ (.refl _) (by omega) (by omega)
    · rw [if_neg (fun h => hb ⟨of_decide_eq_true h.1, h.2⟩)] at hat hsz
      by_cases h0 : 0 < j
      · have hst := take_join _ j (by omega) _ hat h0
        refine S.sq <| Q.rg <| Q.mv rfl <| Q.fa f26_4 rfl <| Q.lc 0 ty24 rfl rfl rfl <| S.qu (Z.lns sl24 rfl) <| Q.bi rfl rfl rfl <| Q.nt <| S.cT rfl (decide_eq_true (by omega)) <| UW.skip <| UQ.then <| S.sq <| UW.block <| S.sq <| Q.rg <| Q.mv rfl <| Q.bi rfl rfl rfl <| Q.nt <| S.cT rfl (decide_eq_true (by omega)) <| S.rg <| Q.mv rfl <| S.qu (Z.cat (q := comma) rfl rfl (by show _ + 1 ≤ _; omega)) <| ?_
        refine Q.as rfl <| Q.nt <| S.sq <| Q.rg <| Q.fa f26_0 rfl <| Q.lc 0 ty3 rfl rfl rfl <| Q.bi rfl rfl rfl <| Q.mv rfl <| ?_
        refine S.tE 38 (fun hc38 => ?_) (fun hc38 => ?_)
        refine Q.on (Z.mv rfl) <| Q.on (Z.fa f26_3 rfl) <| Q.on (Z.ldc 0 ty23 rfl rfl rfl) <| Q.on (Z.lns sl23 rfl) <| Q.on (Z.bi rfl rfl rfl) <| Q.pk rfl rfl <| Q.nt <| S.cF rfl (decide_eq_false (by omega)) <| UW.skip <| UQ.then <| S.rg <| Q.mv rfl <| Q.fa f26_4 rfl <| Q.lc 0 ty24 rfl rfl rfl <| Q.mv rfl <| S.qu (Z.ia sl24 rfl rfl (by omega) (by assumption) (by exact encV_len _)) <| ?_
        refine S.qu (Z.lpa ty26 rfl (encV_len _)) <| S.qu (Z.call rfl rfl (fun _ => ih _ (List.getElem_mem hlt) (hp.kid (List.getElem_mem hlt)) _)) <| S.qu (Z.eq (u' := .v (.string (joinB ((pairP (decide (k = 5)) ks (vs.map printV)).take (j + 1)) comma))) (Z.cat rfl rfl (by rw [app_size]; show _ + 1 + _ ≤ _; omega)) (by rw [hst])) <| ?_
        refine Q.as rfl <| US.nil <| UQ.blockN <| UQ.then <| S.rg <| Q.mv rfl <| S.qu (Z.add (r := ((j + 1 : Nat) : Int)) rfl rfl (IntWalk.i64_in _ (by omega))) <| Q.as rfl <| US.nil <| ?_
        refine S.back _ ⟨rfl, rfl, rfl, trivial⟩ (.refl _) (by omega) (by omega)
        refine Q.of <| Q.of <| Q.of <| Q.of <| Q.of <| Q.pk rfl rfl <| Q.nt <| S.cF rfl rfl <| UW.skip <| UQ.then <| S.rg <| Q.mv rfl <| Q.fa f26_4 rfl <| Q.lc 0 ty24 rfl rfl rfl <| Q.mv rfl <| S.qu (Z.ia sl24 rfl rfl (by omega) (by assumption) (by exact encV_len _)) <| ?_
        refine S.qu (Z.lpa ty26 rfl (encV_len _)) <| S.qu (Z.call rfl rfl (fun _ => ih _ (List.getElem_mem hlt) (hp.kid (List.getElem_mem hlt)) _)) <| S.qu (Z.eq (u' := .v (.string (joinB ((pairP (decide (k = 5)) ks (vs.map printV)).take (j + 1)) comma))) (Z.cat rfl rfl (by rw [app_size]; show _ + 1 + _ ≤ _; omega)) (by rw [hst])) <| ?_
        refine Q.as rfl <| US.nil <| UQ.blockN <| UQ.then <| S.rg <| Q.mv rfl <| S.qu (Z.add (r := ((j + 1 : Nat) : Int)) rfl rfl (IntWalk.i64_in _ (by omega))) <| Q.as rfl <| US.nil <| ?_
        refine S.back _ ⟨rfl, rfl, rfl, trivial⟩ (.refl _) (by omega) (by omega)
      · have hj0 : j = 0 := by omega
        subst hj0
        have hst := take_join0 _ (by omega) _ hat
        refine S.sq <| Q.rg <| Q.mv rfl <| Q.fa f26_4 rfl <| Q.lc 0 ty24 rfl rfl rfl <| S.qu (Z.lns sl24 rfl) <| Q.bi rfl rfl rfl <| Q.nt <| S.cT rfl (decide_eq_true (by omega)) <| UW.skip <| UQ.then <| S.sq <| UW.block <| S.sq <| Q.rg <| Q.mv rfl <| Q.bi rfl rfl rfl <| Q.nt <| S.cF rfl (decide_eq_false (by omega)) <| UW.skip <| UQ.then <| S.sq <| Q.rg <| Q.fa f26_0 rfl <| Q.lc 0 ty3 rfl rfl rfl <| Q.bi rfl rfl rfl <| Q.mv rfl <| ?_
        refine S.tE 38 (fun hc38 => ?_) (fun hc38 => ?_)
        refine Q.on (Z.mv rfl) <| Q.on (Z.fa f26_3 rfl) <| Q.on (Z.ldc 0 ty23 rfl rfl rfl) <| Q.on (Z.lns sl23 rfl) <| Q.on (Z.bi rfl rfl rfl) <| Q.pk rfl rfl <| Q.nt <| S.cF rfl (decide_eq_false (by omega)) <| UW.skip <| UQ.then <| S.rg <| Q.mv rfl <| Q.fa f26_4 rfl <| Q.lc 0 ty24 rfl rfl rfl <| Q.mv rfl <| S.qu (Z.ia sl24 rfl rfl (by omega) (by assumption) (by exact encV_len _)) <| ?_
        refine S.qu (Z.lpa ty26 rfl (encV_len _)) <| S.qu (Z.call rfl rfl (fun _ => ih _ (List.getElem_mem hlt) (hp.kid (List.getElem_mem hlt)) _)) <| S.qu (Z.eq (u' := .v (.string (joinB ((pairP (decide (k = 5)) ks (vs.map printV)).take (0 + 1)) comma))) (Z.cat (p := joinB [] comma) rfl rfl (by rw [show (joinB [] comma).size = 0 from rfl]; omega)) (by rw [nil_app, ← hst])) <| ?_
        refine Q.as rfl <| US.nil <| UQ.blockN <| UQ.then <| S.rg <| Q.mv rfl <| S.qu (Z.add (r := ((0 + 1 : Nat) : Int)) rfl rfl (IntWalk.i64_in _ (by omega))) <| Q.as rfl <| US.nil <| ?_
        refine S.back _ ⟨rfl, rfl, rfl, trivial⟩ (.refl _) (by omega) (by omega)
        refine Q.of <| Q.of <| Q.of <| Q.of <| Q.of <| Q.pk rfl rfl <| Q.nt <| S.cF rfl rfl <| UW.skip <| UQ.then <| S.rg <| Q.mv rfl <| Q.fa f26_4 rfl <| Q.lc 0 ty24 rfl rfl rfl <| Q.mv rfl <| S.qu (Z.ia sl24 rfl rfl (by omega) (by assumption) (by exact encV_len _)) <| ?_
        refine S.qu (Z.lpa ty26 rfl (encV_len _)) <| S.qu (Z.call rfl rfl (fun _ => ih _ (List.getElem_mem hlt) (hp.kid (List.getElem_mem hlt)) _)) <| S.qu (Z.eq (u' := .v (.string (joinB ((pairP (decide (k = 5)) ks (vs.map printV)).take (0 + 1)) comma))) (Z.cat (p := joinB [] comma) rfl rfl (by rw [show (joinB [] comma).size = 0 from rfl]; omega)) (by rw [nil_app, ← hst])) <| ?_
        refine Q.as rfl <| US.nil <| UQ.blockN <| UQ.then <| S.rg <| Q.mv rfl <| S.qu (Z.add (r := ((0 + 1 : Nat) : Int)) rfl rfl (IntWalk.i64_in _ (by omega))) <| Q.as rfl <| US.nil <| ?_
        refine S.back _ ⟨rfl, rfl, rfl, trivial⟩ (.refl _) (by omega) (by omega)
  · have hjl : j = vs.length := by omega
    have hall : (pairP (decide (k = 5)) ks (vs.map printV)).take j = pairP (decide (k = 5)) ks (vs.map printV) := List.take_of_length_le (by omega)
    rw [hall] at hjs hjt ⊢
    by_cases hk5 : k = 5
    · rw [decide_eq_true hk5] at hjs hPl hsum ⊢
      refine S.sq <| Q.rg <| Q.mv rfl <| Q.fa f26_4 rfl <| Q.lc 0 ty24 rfl rfl rfl <| S.qu (Z.lns sl24 rfl) <| Q.bi rfl rfl rfl <| Q.nt <| S.cF rfl (decide_eq_false (by omega)) <| UW.exit <| UQ.pass <| UQ.pass <| UQ.here <| UQ.then <| S.sq <| Q.rg <| Q.fa f26_0 rfl <| Q.lc 0 ty3 rfl rfl rfl <| Q.bi rfl rfl rfl <| Q.nt <| S.cT rfl (beq_t (by omega)) <| Q.rg <| Q.mv rfl <| S.qu (Z.cat (p := byteB 123) rfl rfl (by rw [byteB_size]; omega)) <| ?_
      refine S.qu (Z.cat (q := byteB 125) rfl rfl (by rw [app_size, byteB_size, byteB_size]; omega)) <| ?_
      refine Q.as rfl <| Q.nt <| UW.ret <| UQ.passR <| S.rtR (fun _ => res_tmp rfl rfl) <| ?_
      focus ((congr 2; rw [printV_mk]; unfold prB; (repeat' split) <;> first | rfl | omega); done)
    · rw [decide_eq_false hk5] at hjs hPl hsum ⊢
      refine S.sq <| Q.rg <| Q.mv rfl <| Q.fa f26_4 rfl <| Q.lc 0 ty24 rfl rfl rfl <| S.qu (Z.lns sl24 rfl) <| Q.bi rfl rfl rfl <| Q.nt <| S.cF rfl (decide_eq_false (by omega)) <| UW.exit <| UQ.pass <| UQ.pass <| UQ.here <| UQ.then <| S.sq <| Q.rg <| Q.fa f26_0 rfl <| Q.lc 0 ty3 rfl rfl rfl <| Q.bi rfl rfl rfl <| Q.nt <| S.cF rfl (beq_f (by omega)) <| UW.skip <| UQ.then <| Q.rg <| Q.mv rfl <| S.qu (Z.cat (p := byteB 91) rfl rfl (by rw [byteB_size]; omega)) <| ?_
      refine S.qu (Z.cat (q := byteB 93) rfl rfl (by rw [app_size, byteB_size, byteB_size]; omega)) <| ?_
      refine Q.as rfl <| Q.nt <| UW.ret <| S.rtR (fun _ => res_tmp rfl rfl) <| ?_
      focus ((congr 2; rw [printV_mk]; unfold prB; (repeat' split) <;> first | rfl | omega); done)
end Go.Proofs.YtgmfgmbgmjbdhaaGreatDoor
