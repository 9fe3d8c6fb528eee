/- The law ValueLaid: what it answers. -/
import Derived.Test.YtopaddebalfoeaaP3
import Derived.Test.YtopaddebalfoeaaL3
namespace Go.Proofs.Ytopaddebalfoeaa
open Go Go.RowKit Go.Eng
set_option linter.unusedSimpArgs false
set_option linter.unusedVariables false
set_option maxRecDepth 100000
set_option maxHeartbeats 4000000
def laidL : List ByteArray := [⟨#[97]⟩, ⟨#[98]⟩, ⟨#[117, 115, 101, 114, 115]⟩, ⟨#[122, 122]⟩, ⟨#[]⟩, ⟨#[109]⟩]
theorem laid_ok : ∀ s ∈ laidL, chk s < 0 := by
  intro s hs
  simp only [laidL, List.mem_cons, List.mem_nil_iff, or_false] at hs
  rcases hs with h | h | h | h | h | h <;> (subst h; exact of_decide_eq_true (by kernel_rfl))
theorem get_fits {x : V} (h : Fits x) (s : ByteArray) : Fits (getV x s).1 := by
  unfold getV
  cases hp : pl x s with
  | none => exact fits_zero
  | some i => exact h.vs _ (getD_mem (pl_lt hp).1)
theorem wo_len {n : Int} {t : ByteArray} {ks : List ByteArray} {vs : List V} (hl : ks.length = vs.length) (key : ByteArray) : (withoutV (.mk 5 n t ks vs) key).ks.length ≤ ks.length ∧ (withoutV (.mk 5 n t ks vs) key).vs.length ≤ vs.length := by
  cases h : keyIdx ks key with
  | some i =>
    have hi := keyIdx_lt h
    rw [wo_some hl h]; simp only [vks, vvs]; rw [cutAt_len hi, cutAt_len (by omega)]; omega
  | none => rw [wo_none hl h]; simp [vks, vvs]
theorem valueLaid_spec (c : List Int) (hc : Bys c) (d : List Int) (hd : Bys d) (b : Int) (hb0 : 0 ≤ b) (hb1 : b < 256) (j : Int) (hj0 : 0 ≤ j) (hj1 : j < 256) (H : Hp) : ACall Try.prog 7 [u8s c, u8s d, .v (.int .u8 b), .v (.int .u8 j)] H (IsR H (.v (.bool true))) := by
  have hpart : ∀ H, ACall Try.prog 19 [u8s c, .v (.int .u8 b)] H (IsR H (.agg (encV (partV c b)))) := part_spec c hc b hb0 hb1
  have hpart2 : ∀ H, ACall Try.prog 19 [u8s d, .v (.int .u8 j)] H (IsR H (.agg (encV (partV d j)))) := part_spec d hd j hj0 hj1
  have hr := partV_right c b hb0
  have hs := partV_small c b hb0
  have hgx := partV_good d j hj0
  have hrx := partV_right d j hj0
  generalize partV c b = v at *
  generalize partV d j = x at *
  obtain ⟨k, n, t, ks, vs⟩ := v
  by_cases hk : k = 5
  · subst hk
    obtain ⟨hn, htx, hko, hl, hrv⟩ := right_obj.1 hr
    obtain ⟨ha, hch⟩ := asc_of_ok hko
    have hm0 := Int.tmod_nonneg 6 hj0
    have hm1 := Int.tmod_lt_of_pos j (by decide : (0 : Int) < 6)
    have hq : j.tdiv 6 = j / 6 := Int.tdiv_eq_ediv_of_nonneg hj0
    have hn0 := Int.tmod_nonneg 6 (by omega : 0 ≤ j.tdiv 6)
    have hn1 := Int.tmod_lt_of_pos (j.tdiv 6) (by decide : (0 : Int) < 6)
    have hg1 := strs_get laidL (j.tmod 6).toNat (by show _ < 6; omega)
    have hg2 := strs_get laidL ((j.tdiv 6).tmod 6).toNat (by show _ < 6; omega)
    have hck : chk (laidL[(j.tmod 6).toNat]'(by show _ < 6; omega)) < 0 := laid_ok _ (List.getElem_mem _)
    generalize laidL[(j.tmod 6).toNat]'(by show _ < 6; omega) = key at *
    generalize laidL[((j.tdiv 6).tmod 6).toNat]'(by show _ < 6; omega) = other at *
    have hvf : Fits (.mk 5 n t ks vs) := hs.fits
    have w1 := get_with (n := n) (t := t) hl ha key x
    have w2 := get_other (n := n) (t := t) hl ha key other (y := x)
    have w3 := wo_with (n := n) (t := t) hl ha key x
    have w4 := with_with (n := n) (t := t) hl ha key x
    obtain ⟨ku, vu, u1, u2, u3, u4, u5, u6⟩ := wo_form (n := n) (t := t) hl ha key
    obtain ⟨kw, vw, f1, f2, f3, f4, f5⟩ := with_form (n := n) (t := t) hl ha key x
    have hrvs : ∀ y ∈ vs, rightV y = true := right_vals hr
    have rw1 : rightV (.mk 5 n t kw vw) = true := right_obj.2 ⟨hn, htx, ok_of_asc f3 (fun s h => by rcases f4 s h with h | h; exact hch s h; rw [h]; exact hck), f2, rightsV_all fun i hi => by rcases f5 _ (List.getElem_mem hi) with h | h; exact hrvs _ h; rw [h]; exact hrx⟩
    have ru1 : rightV (.mk 5 n t ku vu) = true := right_obj.2 ⟨hn, htx, ok_of_asc u3 (fun s h => hch s (u5 s h)), u2, rightsV_all fun i hi => hrvs _ (u6 _ (List.getElem_mem hi))⟩
    have hwl := (withV_lens (.mk 5 n t ks vs) key x)
    have hwf : Fits (.mk 5 n t kw vw) := by
      rw [f1] at hwl
      have h1 := hs.1; have h2 := hs.2.1
      simp only [vks, vvs] at h1 h2
      have e : objV (.mk 5 n t ks vs) = .mk 5 n t ks vs := rfl
      rw [e] at hwl
      simp only [vks, vvs] at hwl
      exact .mk _ _ _ _ _ (by omega) (by omega) fun y hy => by rcases f5 y hy with h | h; exact hs.2.2 y h; rw [h]; exact hgx.1
    have huf : Fits (.mk 5 n t ku vu) := by
      have h0 := wo_len (n := n) (t := t) hl key
      rw [u1] at h0
      simp only [vks, vvs] at h0
      have h1 := hs.1; have h2 := hs.2.1
      simp only [vks, vvs] at h1 h2
      exact .mk _ _ _ _ _ (by omega) (by omega) fun y hy => hs.2.2 y (u6 y hy)
    have gu := get_none (n := n) (t := t) u2 u4
    have wu := wo_none (n := n) (t := t) u2 u4
    rw [f1] at w1 w2 w3 w4
    rw [u1] at w3
    have hgf := get_fits hvf other
    have hvf2 := hvf
    have hpw : ∀ H, ACall Try.prog 21 [.agg (encV (.mk 5 n t ks vs)), .v (.string key), .agg (encV x)] H (IsR H (.agg (encV (.mk 5 n t kw vw)))) := fun H => by rw [← f1]; exact with_spec _ hvf key x hgx.1 H
    by_cases he : other = key
    · subst he
      refine UCall (n := 140) (H0 := H) (objs := []) Try.func7 (by kernel_rfl) rfl (by rw [Try.ntmps7]; rfl) .nil <| ?_
      refine Q.rg <| Q.as rfl <| Q.nt <| Q.rg <| S.qu (Z.eq (u' := strs laidL) (Z.bl row24 rfl rfl (lit_ok rfl)) rfl) <| Q.as rfl <| Q.nt <| Q.rg <| Q.mv rfl <| Q.mv rfl <| S.qu (Z.call rfl rfl (fun _ => hpart _)) <| S.dd <| D.al z27 rfl rfl rfl fun p10 => S.s <| D.st 0 ty27 rfl rfl rfl rfl rfl rfl rfl rfl fun _ => Q.nt <| Q.rg <| Q.mv rfl <| Q.mv rfl <| S.qu (Z.call rfl rfl (fun _ => hpart2 _)) <| S.dd <| D.al z27 rfl rfl rfl fun p11 => S.s <| D.stw 0 ty27 rfl rfl rfl rfl (by exact encV_cell _) (encV_len _) rfl rfl fun _ => ?_
      refine Q.nt <| S.sq <| Q.rg <| Q.fa f27_0 rfl <| Q.lc 1 ty3 rfl rfl rfl <| Q.bi rfl rfl rfl <| Q.mv rfl <| ?_
      refine S.tO 34 (fun hc34 => ?_) (fun hc34 => ?_)
      omega
      refine Q.on (Z.ldw 0 ty27 rfl rfl (encV_len _)) <| Q.on (Z.eq (u' := .v (.bool true)) (Z.call rfl rfl (fun _ => rightR_spec x hgx.1 hgx.2.1 _)) (by rw [hrx])) <| ?_
      refine Q.on (Z.not rfl) <| Q.pk rfl rfl <| Q.nt <| S.cF rfl rfl <| UW.skip <| UQ.then <| Q.rg <| Q.mv rfl <| Q.mv rfl <| Q.bi rfl rfl rfl <| S.qu (Z.ia sl24 rfl rfl (by omega) hg1 rfl) <| S.qu (Z.lpc ty9 rfl) <| Q.as rfl <| Q.nt <| Q.rg <| Q.mv rfl <| Q.mv rfl <| S.qu (Z.eq (u' := .v (.int .u8 (j.tdiv 6))) (Z.bi rfl rfl rfl) (by congr 2; exact IntWalk.u8_in _ (by omega))) <| ?_
      refine Q.bi rfl rfl rfl <| S.qu (Z.ia sl24 rfl rfl (by omega) hg2 rfl) <| S.qu (Z.lpc ty9 rfl) <| Q.as rfl <| Q.nt <| Q.rg <| S.qu (Z.ldw 1 ty27 rfl rfl rfl) <| Q.mv rfl <| S.qu (Z.ldw 0 ty27 rfl rfl (encV_len _)) <| S.qu (Z.call rfl rfl (fun _ => hpw _)) <| S.dd <| D.al z27 rfl rfl rfl fun p14 => S.s <| D.st 0 ty27 rfl rfl rfl rfl rfl rfl rfl rfl fun _ => Q.nt <| Q.rg <| S.qu (Z.ldw 0 ty27 rfl rfl rfl) <| Q.mv rfl <| S.qu (Z.eq (u' := .tup [.agg (encV x), .v (.bool true)]) (Z.call rfl rfl (fun _ => get_spec _ hwf _ _)) (by rw [w1])) <| ?_
      refine Q.mv rfl <| S.qu (Z.ex rfl rfl) <| S.qu (Z.ex rfl rfl) <| S.dd <| D.al z27 rfl rfl rfl fun p15 => S.s <| D.stw 0 ty27 rfl rfl rfl rfl (by exact encV_cell _) (encV_len _) rfl rfl fun _ => ?_
      refine Q.as rfl <| Q.nt <| Q.rg <| S.qu (Z.ldw 3 ty27 rfl rfl rfl) <| Q.mv rfl <| S.qu (Z.call rfl rfl (fun _ => get_spec _ hvf _ _)) <| Q.mv rfl <| S.qu (Z.ex rfl rfl) <| S.qu (Z.ex rfl rfl) <| S.dd <| D.al z27 rfl rfl rfl fun p17 => S.s <| D.stw 0 ty27 rfl rfl rfl rfl (by exact encV_cell _) (encV_len _) rfl rfl fun _ => ?_
      refine Q.as rfl <| Q.nt <| Q.rg <| S.qu (Z.ldw 2 ty27 rfl rfl rfl) <| Q.mv rfl <| S.qu (Z.eq (u' := .tup [.agg (encV x), .v (.bool true)]) (Z.call rfl rfl (fun _ => get_spec _ hwf _ _)) (by rw [w1])) <| ?_
      refine Q.mv rfl <| S.qu (Z.ex rfl rfl) <| S.qu (Z.ex rfl rfl) <| S.dd <| D.al z27 rfl rfl rfl fun p19 => S.s <| D.stw 0 ty27 rfl rfl rfl rfl (by exact encV_cell _) (encV_len _) rfl rfl fun _ => ?_
      refine Q.as rfl <| Q.nt <| Q.rg <| S.qu (Z.ldw 3 ty27 rfl rfl rfl) <| Q.mv rfl <| S.qu (Z.eq (u' := .agg (encV (.mk 5 n t ku vu))) (Z.call rfl rfl (fun _ => without_spec _ hwf _ _)) (by rw [w3])) <| ?_
      refine S.dd <| D.al z27 rfl rfl rfl fun p21 => S.s <| D.st 0 ty27 rfl rfl rfl rfl rfl rfl rfl rfl fun _ => Q.nt <| Q.rg <| S.qu (Z.ldw 0 ty27 rfl rfl rfl) <| Q.mv rfl <| S.qu (Z.eq (u' := .tup [.agg (encV zeroV), .v (.bool false)]) (Z.call rfl rfl (fun _ => get_spec _ huf _ _)) (by rw [gu])) <| ?_
      refine Q.mv rfl <| S.qu (Z.ex rfl rfl) <| S.qu (Z.ex rfl rfl) <| S.dd <| D.al z27 rfl rfl rfl fun p22 => S.s <| D.st 0 ty27 rfl rfl rfl rfl rfl rfl rfl rfl fun _ => Q.as rfl <| Q.nt <| S.sq <| ?_
      refine' UW.draw' (by kernel_rfl) [0, 1, 3, 7, 15, 31, 31, 127, 255, 511, 1023, 1023, 4095, 8191, 16383, 16383, 65535, 131071, 262143, 262143, 1048575, 2097151, 4194303, 8388607, 16777215, 33554431, 67108863, 134217727, 268435455, 536870911, 1073741823, 2147483647, 4294967295, 8589934591, 17179869183, 34359738367, 68719476735, 137438953471, 137438953471, 549755813887, 137438953471, 2199023255551, 4398046511103, 8796093022207, 17592186044415, 17592186044415, 17592186044415, 140737488355327, 17592186044415, 562949953421311, 1125899906842623, 2251799813685247, 4503599627370495, 4503599627370495, 4503599627370495, 31525197391593471, 72057594037927935, 144115188075855871, 288230376151711743] [some 82, some 83, some 84, some 85, some 86, some 87, some 88, some 89, some 90, some 91, some 92, some 93, some 94, some 95, some 96, some 97, some 98, some 99, some 100, some 101, some 102, some 103, some 104, some 105, some 106, some 107, some 108, some 109, some 110, some 111, some 112, some 113, some 114, some 115, some 116, some 117, some 118, some 119, some 120, some 121, some 122, some 123, some 124, some 125, some 126, some 127, some 128, some 129, some 130, some 131, some 132, some 133, some 134, some 135, some 136, some 137, some 138, some 139, some 8] [some (82, _), some (83, _), some (84, _), some (85, _), some (86, _), some (87, _), some (88, _), some (89, _), some (90, _), some (91, _), some (92, _), some (93, _), some (94, _), some (95, _), some (96, _), some (97, _), some (98, _), some (99, _), some (100, _), some (101, _), some (102, _), some (103, _), some (104, _), some (105, _), some (106, _), some (107, _), some (108, _), some (109, _), some (110, _), some (111, _), some (112, _), some (113, _), some (114, _), some (115, _), some (116, _), some (117, _), some (118, _), some (119, _), some (120, _), some (121, _), some (122, _), some (123, _), some (124, _), some (125, _), some (126, _), some (127, _), some (128, _), some (129, _), some (130, _), some (131, _), some (132, _), some (133, _), some (134, _), some (135, _), some (136, _), some (137, _), some (138, _), some (139, _), some (8, _)] [] [5, 6, 18, 19, 29, 33, 37, 40, 44, 46, 48, 52, 53] rfl (by decide) (by decide) (QAll.free (by decide) rfl rfl ?q0x0_0 (QAll.free (by decide) rfl rfl ?q0x0_1 (QAll.free (by decide) rfl rfl ?q0x0_2 (QAll.free (by decide) rfl rfl ?q0x0_3 (QAll.free (by decide) rfl rfl ?q0x0_4 (QAll.held (by decide) rfl rfl ?q0x0_5 (QAll.held (by decide) rfl rfl ?q0x0_6 (QAll.free (by decide) rfl rfl ?q0x0_7 (QAll.free (by decide) rfl rfl ?q0x0_8 (QAll.free (by decide) rfl rfl ?q0x0_9 (QAll.free (by decide) rfl rfl ?q0x0_10 (QAll.free (by decide) rfl rfl ?q0x0_11 (QAll.free (by decide) rfl rfl ?q0x0_12 (QAll.free (by decide) rfl rfl ?q0x0_13 (QAll.free (by decide) rfl rfl ?q0x0_14 (QAll.free (by decide) rfl rfl ?q0x0_15 (QAll.free (by decide) rfl rfl ?q0x0_16 (QAll.free (by decide) rfl rfl ?q0x0_17 (QAll.held (by decide) rfl rfl ?q0x0_18 (QAll.held (by decide) rfl rfl ?q0x0_19 (QAll.free (by decide) rfl rfl ?q0x0_20 (QAll.free (by decide) rfl rfl ?q0x0_21 (QAll.free (by decide) rfl rfl ?q0x0_22 (QAll.free (by decide) rfl rfl ?q0x0_23 (QAll.free (by decide) rfl rfl ?q0x0_24 (QAll.free (by decide) rfl rfl ?q0x0_25 (QAll.free (by decide) rfl rfl ?q0x0_26 (QAll.free (by decide) rfl rfl ?q0x0_27 (QAll.free (by decide) rfl rfl ?q0x0_28 (QAll.held (by decide) rfl rfl ?q0x0_29 (QAll.free (by decide) rfl rfl ?q0x0_30 (QAll.free (by decide) rfl rfl ?q0x0_31 (QAll.free (by decide) rfl rfl ?q0x0_32 (QAll.held (by decide) rfl rfl ?q0x0_33 (QAll.free (by decide) rfl rfl ?q0x0_34 (QAll.free (by decide) rfl rfl ?q0x0_35 (QAll.free (by decide) rfl rfl ?q0x0_36 (QAll.held (by decide) rfl rfl ?q0x0_37 (QAll.free (by decide) rfl rfl ?q0x0_38 (QAll.free (by decide) rfl rfl ?q0x0_39 (QAll.held (by decide) rfl rfl ?q0x0_40 (QAll.free (by decide) rfl rfl ?q0x0_41 (QAll.free (by decide) rfl rfl ?q0x0_42 (QAll.free (by decide) rfl rfl ?q0x0_43 (QAll.held (by decide) rfl rfl ?q0x0_44 (QAll.free (by decide) rfl rfl ?q0x0_45 (QAll.held (by decide) rfl rfl ?q0x0_46 (QAll.free (by decide) rfl rfl ?q0x0_47 (QAll.held (by decide) rfl rfl ?q0x0_48 (QAll.free (by decide) rfl rfl ?q0x0_49 (QAll.free (by decide) rfl rfl ?q0x0_50 (QAll.free (by decide) rfl rfl ?q0x0_51 (QAll.held (by decide) rfl rfl ?q0x0_52 (QAll.held (by decide) rfl rfl ?q0x0_53 (QAll.free (by decide) rfl rfl ?q0x0_54 (QAll.free (by decide) rfl rfl ?q0x0_55 (QAll.free (by decide) rfl rfl ?q0x0_56 (QAll.free (by decide) rfl rfl ?q0x0_57 (QAll.free (by decide) rfl rfl ?q0x0_58 QAll.nil))))))))))))))))))))))))))))))))))))))))))))))))))))))))))) ?q0x0_k
      case q0x0_0 => (intro _; exact Z.call rfl rfl (fun _ => known_spec _))
      case q0x0_1 => (intro _; exact Z.mv rfl)
      case q0x0_2 => (intro _; exact Z.on (Z.mv rfl))
      case q0x0_3 => (intro _; exact Z.pick rfl rfl)
      case q0x0_4 => (intro _; exact Z.mv rfl)
      case q0x0_5 => exact Z.on (Z.ldw 4 ty27 rfl rfl (encV_len _))
      case q0x0_6 => exact Z.on (Z.ldw 6 ty27 rfl rfl (encV_len _))
      case q0x0_7 => (intro _; exact Z.on (Z.eq (u' := .v (.bool true)) (Z.call rfl rfl (fun _ => same_spec x hgx.1 x _)) (by rw [same_self x hgx.1])))
      case q0x0_8 => (intro _; exact Z.pick rfl rfl)
      case q0x0_9 => (intro _; exact Z.mv rfl)
      case q0x0_10 => (intro _; exact Z.on (Z.mv rfl))
      case q0x0_11 => (intro _; exact Z.on (Z.mv rfl))
      case q0x0_12 => (intro _; exact Z.on (Z.eq (u' := .v (.bool true)) (Z.bs rfl rfl rfl) (by simp)))
      case q0x0_13 => (intro _; exact Z.on (Z.mv rfl))
      case q0x0_14 => (intro _; exact Z.of)
      case q0x0_15 => (intro _; exact Z.of)
      case q0x0_16 => (intro _; exact Z.of)
      case q0x0_17 => (intro _; exact Z.of)
      case q0x0_18 => exact Z.of2
      case q0x0_19 => exact Z.of2
      case q0x0_20 => (intro _; exact Z.of2)
      case q0x0_21 => (intro _; exact Z.of)
      case q0x0_22 => (intro _; exact Z.on (Z.pick rfl rfl))
      case q0x0_23 => (intro _; exact Z.pick rfl rfl)
      case q0x0_24 => (intro _; exact Z.mv rfl)
      case q0x0_25 => (intro _; exact Z.on (Z.mv rfl))
      case q0x0_26 => (intro _; exact Z.on (Z.tT (Z.not rfl) (beq_t (by omega))))
      case q0x0_27 => (intro _; exact Z.pick rfl rfl)
      case q0x0_28 => (intro _; exact Z.mv rfl)
      case q0x0_29 => exact Z.on (Z.ldw 5 ty27 rfl rfl rfl)
      case q0x0_30 => (intro _; exact Z.on (Z.eq (u' := .v (.bool true)) (Z.call rfl rfl (fun _ => right_spec _ hwf _)) (by rw [rw1])))
      case q0x0_31 => (intro _; exact Z.pick rfl rfl)
      case q0x0_32 => (intro _; exact Z.mv rfl)
      case q0x0_33 => exact Z.on (Z.ldw 1 ty27 rfl rfl rfl)
      case q0x0_34 => (intro _; exact Z.on (Z.eq (u' := .v (.bool true)) (Z.call rfl rfl (fun _ => right_spec _ huf _)) (by rw [ru1])))
      case q0x0_35 => (intro _; exact Z.pick rfl rfl)
      case q0x0_36 => (intro _; exact Z.mv rfl)
      case q0x0_37 => exact Z.on (Z.ldw 1 ty27 rfl rfl rfl)
      case q0x0_38 => (intro _; exact Z.on (Z.mv rfl))
      case q0x0_39 => (intro _; exact Z.on (Z.eq (u' := .agg (encV (.mk 5 n t ku vu))) (Z.call rfl rfl (fun _ => without_spec _ huf _ _)) (by rw [wu])))
      case q0x0_40 => exact Z.on (Z.ldw 1 ty27 rfl rfl rfl)
      case q0x0_41 => (intro _; exact Z.on (Z.eq (u' := .v (.bool true)) (Z.call rfl rfl (fun _ => same_spec _ huf (.mk 5 n t ku vu) _)) (by rw [same_self _ huf])))
      case q0x0_42 => (intro _; exact Z.pick rfl rfl)
      case q0x0_43 => (intro _; exact Z.mv rfl)
      case q0x0_44 => exact Z.on (Z.ldw 5 ty27 rfl rfl rfl)
      case q0x0_45 => (intro _; exact Z.on (Z.mv rfl))
      case q0x0_46 => exact Z.on (Z.ldw 6 ty27 rfl rfl (encV_len _))
      case q0x0_47 => (intro _; exact Z.on (Z.eq (u' := .agg (encV (.mk 5 n t kw vw))) (Z.call rfl rfl (fun _ => with_spec _ hwf _ x hgx.1 _)) (by rw [w4])))
      case q0x0_48 => exact Z.on (Z.ldw 5 ty27 rfl rfl rfl)
      case q0x0_49 => (intro _; exact Z.on (Z.eq (u' := .v (.bool true)) (Z.call rfl rfl (fun _ => same_spec _ hwf (.mk 5 n t kw vw) _)) (by rw [same_self _ hwf])))
      case q0x0_50 => (intro _; exact Z.pick rfl rfl)
      case q0x0_51 => (intro _; exact Z.mv rfl)
      case q0x0_52 => exact Z.on (Z.ldw 1 ty27 rfl rfl rfl)
      case q0x0_53 => exact Z.on (Z.ldw 7 ty27 rfl rfl rfl)
      case q0x0_54 => (intro _; exact Z.on (Z.mv rfl))
      case q0x0_55 => (intro _; exact Z.on (Z.eq (u' := .agg (encV (.mk 5 n t ku vu))) (Z.call rfl rfl (fun _ => without_spec _ hvf _ _)) (by rw [u1])))
      case q0x0_56 => (intro _; exact Z.on (Z.eq (u' := .v (.bool true)) (Z.call rfl rfl (fun _ => same_spec _ huf (.mk 5 n t ku vu) _)) (by rw [same_self _ huf])))
      case q0x0_57 => (intro _; exact Z.pick rfl rfl)
      case q0x0_58 => (intro _; exact Z.as rfl)
      refine CH.nil <| ?_
      simp only [app, finL]
      refine UQ.then <| UW.ret <| S.rtR (fun _ => res_tmp rfl rfl) <| ?_
      rfl
    · refine UCall (n := 140) (H0 := H) (objs := []) Try.func7 (by kernel_rfl) rfl (by rw [Try.ntmps7]; rfl) .nil <| ?_
      refine Q.rg <| Q.as rfl <| Q.nt <| Q.rg <| S.qu (Z.eq (u' := strs laidL) (Z.bl row24 rfl rfl (lit_ok rfl)) rfl) <| Q.as rfl <| Q.nt <| Q.rg <| Q.mv rfl <| Q.mv rfl <| S.qu (Z.call rfl rfl (fun _ => hpart _)) <| S.dd <| D.al z27 rfl rfl rfl fun p10 => S.s <| D.st 0 ty27 rfl rfl rfl rfl rfl rfl rfl rfl fun _ => Q.nt <| Q.rg <| Q.mv rfl <| Q.mv rfl <| S.qu (Z.call rfl rfl (fun _ => hpart2 _)) <| S.dd <| D.al z27 rfl rfl rfl fun p11 => S.s <| D.stw 0 ty27 rfl rfl rfl rfl (by exact encV_cell _) (encV_len _) rfl rfl fun _ => ?_
      refine Q.nt <| S.sq <| Q.rg <| Q.fa f27_0 rfl <| Q.lc 1 ty3 rfl rfl rfl <| Q.bi rfl rfl rfl <| Q.mv rfl <| ?_
      refine S.tO 34 (fun hc34 => ?_) (fun hc34 => ?_)
      omega
      refine Q.on (Z.ldw 0 ty27 rfl rfl (encV_len _)) <| Q.on (Z.eq (u' := .v (.bool true)) (Z.call rfl rfl (fun _ => rightR_spec x hgx.1 hgx.2.1 _)) (by rw [hrx])) <| ?_
      refine Q.on (Z.not rfl) <| Q.pk rfl rfl <| Q.nt <| S.cF rfl rfl <| UW.skip <| UQ.then <| Q.rg <| Q.mv rfl <| Q.mv rfl <| Q.bi rfl rfl rfl <| S.qu (Z.ia sl24 rfl rfl (by omega) hg1 rfl) <| S.qu (Z.lpc ty9 rfl) <| Q.as rfl <| Q.nt <| Q.rg <| Q.mv rfl <| Q.mv rfl <| S.qu (Z.eq (u' := .v (.int .u8 (j.tdiv 6))) (Z.bi rfl rfl rfl) (by congr 2; exact IntWalk.u8_in _ (by omega))) <| ?_
      refine Q.bi rfl rfl rfl <| S.qu (Z.ia sl24 rfl rfl (by omega) hg2 rfl) <| S.qu (Z.lpc ty9 rfl) <| Q.as rfl <| Q.nt <| Q.rg <| S.qu (Z.ldw 1 ty27 rfl rfl rfl) <| Q.mv rfl <| S.qu (Z.ldw 0 ty27 rfl rfl (encV_len _)) <| S.qu (Z.call rfl rfl (fun _ => hpw _)) <| S.dd <| D.al z27 rfl rfl rfl fun p14 => S.s <| D.st 0 ty27 rfl rfl rfl rfl rfl rfl rfl rfl fun _ => Q.nt <| Q.rg <| S.qu (Z.ldw 0 ty27 rfl rfl rfl) <| Q.mv rfl <| S.qu (Z.eq (u' := .tup [.agg (encV x), .v (.bool true)]) (Z.call rfl rfl (fun _ => get_spec _ hwf _ _)) (by rw [w1])) <| ?_
      refine Q.mv rfl <| S.qu (Z.ex rfl rfl) <| S.qu (Z.ex rfl rfl) <| S.dd <| D.al z27 rfl rfl rfl fun p15 => S.s <| D.stw 0 ty27 rfl rfl rfl rfl (by exact encV_cell _) (encV_len _) rfl rfl fun _ => ?_
      refine Q.as rfl <| Q.nt <| Q.rg <| S.qu (Z.ldw 3 ty27 rfl rfl rfl) <| Q.mv rfl <| S.qu (Z.call rfl rfl (fun _ => get_spec _ hvf _ _)) <| Q.mv rfl <| S.qu (Z.ex rfl rfl) <| S.qu (Z.ex rfl rfl) <| S.dd <| D.al z27 rfl rfl rfl fun p17 => S.s <| D.stw 0 ty27 rfl rfl rfl rfl (by exact encV_cell _) (encV_len _) rfl rfl fun _ => ?_
      refine Q.as rfl <| Q.nt <| Q.rg <| S.qu (Z.ldw 2 ty27 rfl rfl rfl) <| Q.mv rfl <| S.qu (Z.eq (u' := .tup [.agg (encV (getV (.mk 5 n t ks vs) other).1), .v (.bool (getV (.mk 5 n t ks vs) other).2)]) (Z.call rfl rfl (fun _ => get_spec _ hwf _ _)) (by rw [w2 he])) <| ?_
      refine Q.mv rfl <| S.qu (Z.ex rfl rfl) <| S.qu (Z.ex rfl rfl) <| S.dd <| D.al z27 rfl rfl rfl fun p19 => S.s <| D.stw 0 ty27 rfl rfl rfl rfl (by exact encV_cell _) (encV_len _) rfl rfl fun _ => ?_
      refine Q.as rfl <| Q.nt <| Q.rg <| S.qu (Z.ldw 3 ty27 rfl rfl rfl) <| Q.mv rfl <| S.qu (Z.eq (u' := .agg (encV (.mk 5 n t ku vu))) (Z.call rfl rfl (fun _ => without_spec _ hwf _ _)) (by rw [w3])) <| ?_
      refine S.dd <| D.al z27 rfl rfl rfl fun p21 => S.s <| D.st 0 ty27 rfl rfl rfl rfl rfl rfl rfl rfl fun _ => Q.nt <| Q.rg <| S.qu (Z.ldw 0 ty27 rfl rfl rfl) <| Q.mv rfl <| S.qu (Z.eq (u' := .tup [.agg (encV zeroV), .v (.bool false)]) (Z.call rfl rfl (fun _ => get_spec _ huf _ _)) (by rw [gu])) <| ?_
      refine Q.mv rfl <| S.qu (Z.ex rfl rfl) <| S.qu (Z.ex rfl rfl) <| S.dd <| D.al z27 rfl rfl rfl fun p22 => S.s <| D.st 0 ty27 rfl rfl rfl rfl rfl rfl rfl rfl fun _ => Q.as rfl <| Q.nt <| S.sq <| ?_
      refine' UW.draw' (by kernel_rfl) [0, 1, 3, 7, 15, 31, 31, 127, 255, 511, 1023, 1023, 4095, 8191, 16383, 16383, 65535, 131071, 262143, 262143, 1048575, 2097151, 4194303, 8388607, 16777215, 33554431, 67108863, 134217727, 268435455, 536870911, 1073741823, 2147483647, 4294967295, 8589934591, 17179869183, 34359738367, 68719476735, 137438953471, 137438953471, 549755813887, 137438953471, 2199023255551, 4398046511103, 8796093022207, 17592186044415, 17592186044415, 17592186044415, 140737488355327, 17592186044415, 562949953421311, 1125899906842623, 2251799813685247, 4503599627370495, 4503599627370495, 4503599627370495, 31525197391593471, 72057594037927935, 144115188075855871, 288230376151711743] [some 82, some 83, some 84, some 85, some 86, some 87, some 88, some 89, some 90, some 91, some 92, some 93, some 94, some 95, some 96, some 97, some 98, some 99, some 100, some 101, some 102, some 103, some 104, some 105, some 106, some 107, some 108, some 109, some 110, some 111, some 112, some 113, some 114, some 115, some 116, some 117, some 118, some 119, some 120, some 121, some 122, some 123, some 124, some 125, some 126, some 127, some 128, some 129, some 130, some 131, some 132, some 133, some 134, some 135, some 136, some 137, some 138, some 139, some 8] [some (82, _), some (83, _), some (84, _), some (85, _), some (86, _), some (87, _), some (88, _), some (89, _), some (90, _), some (91, _), some (92, _), some (93, _), some (94, _), some (95, _), some (96, _), some (97, _), some (98, _), some (99, _), some (100, _), some (101, _), some (102, _), some (103, _), some (104, _), some (105, _), some (106, _), some (107, _), some (108, _), some (109, _), some (110, _), some (111, _), some (112, _), some (113, _), some (114, _), some (115, _), some (116, _), some (117, _), some (118, _), some (119, _), some (120, _), some (121, _), some (122, _), some (123, _), some (124, _), some (125, _), some (126, _), some (127, _), some (128, _), some (129, _), some (130, _), some (131, _), some (132, _), some (133, _), some (134, _), some (135, _), some (136, _), some (137, _), some (138, _), some (139, _), some (8, _)] [] [5, 6, 18, 19, 29, 33, 37, 40, 44, 46, 48, 52, 53] rfl (by decide) (by decide) (QAll.free (by decide) rfl rfl ?q1x0_0 (QAll.free (by decide) rfl rfl ?q1x0_1 (QAll.free (by decide) rfl rfl ?q1x0_2 (QAll.free (by decide) rfl rfl ?q1x0_3 (QAll.free (by decide) rfl rfl ?q1x0_4 (QAll.held (by decide) rfl rfl ?q1x0_5 (QAll.held (by decide) rfl rfl ?q1x0_6 (QAll.free (by decide) rfl rfl ?q1x0_7 (QAll.free (by decide) rfl rfl ?q1x0_8 (QAll.free (by decide) rfl rfl ?q1x0_9 (QAll.free (by decide) rfl rfl ?q1x0_10 (QAll.free (by decide) rfl rfl ?q1x0_11 (QAll.free (by decide) rfl rfl ?q1x0_12 (QAll.free (by decide) rfl rfl ?q1x0_13 (QAll.free (by decide) rfl rfl ?q1x0_14 (QAll.free (by decide) rfl rfl ?q1x0_15 (QAll.free (by decide) rfl rfl ?q1x0_16 (QAll.free (by decide) rfl rfl ?q1x0_17 (QAll.held (by decide) rfl rfl ?q1x0_18 (QAll.held (by decide) rfl rfl ?q1x0_19 (QAll.free (by decide) rfl rfl ?q1x0_20 (QAll.free (by decide) rfl rfl ?q1x0_21 (QAll.free (by decide) rfl rfl ?q1x0_22 (QAll.free (by decide) rfl rfl ?q1x0_23 (QAll.free (by decide) rfl rfl ?q1x0_24 (QAll.free (by decide) rfl rfl ?q1x0_25 (QAll.free (by decide) rfl rfl ?q1x0_26 (QAll.free (by decide) rfl rfl ?q1x0_27 (QAll.free (by decide) rfl rfl ?q1x0_28 (QAll.held (by decide) rfl rfl ?q1x0_29 (QAll.free (by decide) rfl rfl ?q1x0_30 (QAll.free (by decide) rfl rfl ?q1x0_31 (QAll.free (by decide) rfl rfl ?q1x0_32 (QAll.held (by decide) rfl rfl ?q1x0_33 (QAll.free (by decide) rfl rfl ?q1x0_34 (QAll.free (by decide) rfl rfl ?q1x0_35 (QAll.free (by decide) rfl rfl ?q1x0_36 (QAll.held (by decide) rfl rfl ?q1x0_37 (QAll.free (by decide) rfl rfl ?q1x0_38 (QAll.free (by decide) rfl rfl ?q1x0_39 (QAll.held (by decide) rfl rfl ?q1x0_40 (QAll.free (by decide) rfl rfl ?q1x0_41 (QAll.free (by decide) rfl rfl ?q1x0_42 (QAll.free (by decide) rfl rfl ?q1x0_43 (QAll.held (by decide) rfl rfl ?q1x0_44 (QAll.free (by decide) rfl rfl ?q1x0_45 (QAll.held (by decide) rfl rfl ?q1x0_46 (QAll.free (by decide) rfl rfl ?q1x0_47 (QAll.held (by decide) rfl rfl ?q1x0_48 (QAll.free (by decide) rfl rfl ?q1x0_49 (QAll.free (by decide) rfl rfl ?q1x0_50 (QAll.free (by decide) rfl rfl ?q1x0_51 (QAll.held (by decide) rfl rfl ?q1x0_52 (QAll.held (by decide) rfl rfl ?q1x0_53 (QAll.free (by decide) rfl rfl ?q1x0_54 (QAll.free (by decide) rfl rfl ?q1x0_55 (QAll.free (by decide) rfl rfl ?q1x0_56 (QAll.free (by decide) rfl rfl ?q1x0_57 (QAll.free (by decide) rfl rfl ?q1x0_58 QAll.nil))))))))))))))))))))))))))))))))))))))))))))))))))))))))))) ?q1x0_k
      case q1x0_0 => (intro _; exact Z.call rfl rfl (fun _ => known_spec _))
      case q1x0_1 => (intro _; exact Z.mv rfl)
      case q1x0_2 => (intro _; exact Z.on (Z.mv rfl))
      case q1x0_3 => (intro _; exact Z.pick rfl rfl)
      case q1x0_4 => (intro _; exact Z.mv rfl)
      case q1x0_5 => exact Z.on (Z.ldw 4 ty27 rfl rfl (encV_len _))
      case q1x0_6 => exact Z.on (Z.ldw 6 ty27 rfl rfl (encV_len _))
      case q1x0_7 => (intro _; exact Z.on (Z.eq (u' := .v (.bool true)) (Z.call rfl rfl (fun _ => same_spec x hgx.1 x _)) (by rw [same_self x hgx.1])))
      case q1x0_8 => (intro _; exact Z.pick rfl rfl)
      case q1x0_9 => (intro _; exact Z.mv rfl)
      case q1x0_10 => (intro _; exact Z.on (Z.mv rfl))
      case q1x0_11 => (intro _; exact Z.on (Z.mv rfl))
      case q1x0_12 => (intro _; exact Z.on (Z.eq (u' := .v (.bool false)) (Z.bs rfl rfl rfl) (by congr 2; simpa using fun h => he (bytes_ext h))))
      case q1x0_13 => (intro _; exact Z.on (Z.mv rfl))
      case q1x0_14 => (intro _; exact Z.on (Z.mv rfl))
      case q1x0_15 => (intro _; exact Z.on (Z.mv rfl))
      case q1x0_16 => (intro _; exact Z.on (Z.eq (u' := .v (.bool true)) (Z.beq Try.underlying4 rfl rfl) (by simp)))
      case q1x0_17 => (intro _; exact Z.on (Z.mv rfl))
      case q1x0_18 => exact Z.on (Z.ldw 3 ty27 rfl rfl (encV_len _))
      case q1x0_19 => exact Z.on (Z.ldw 2 ty27 rfl rfl (encV_len _))
      case q1x0_20 => (intro _; exact Z.on (Z.eq (u' := .v (.bool true)) (Z.call rfl rfl (fun _ => same_spec _ hgf (getV (.mk 5 n t ks vs) other).1 _)) (by rw [same_self _ hgf])))
      case q1x0_21 => (intro _; exact Z.on (Z.pick rfl rfl))
      case q1x0_22 => (intro _; exact Z.on (Z.pick rfl rfl))
      case q1x0_23 => (intro _; exact Z.pick rfl rfl)
      case q1x0_24 => (intro _; exact Z.mv rfl)
      case q1x0_25 => (intro _; exact Z.on (Z.mv rfl))
      case q1x0_26 => (intro _; exact Z.on (Z.tT (Z.not rfl) (beq_t (by omega))))
      case q1x0_27 => (intro _; exact Z.pick rfl rfl)
      case q1x0_28 => (intro _; exact Z.mv rfl)
      case q1x0_29 => exact Z.on (Z.ldw 5 ty27 rfl rfl rfl)
      case q1x0_30 => (intro _; exact Z.on (Z.eq (u' := .v (.bool true)) (Z.call rfl rfl (fun _ => right_spec _ hwf _)) (by rw [rw1])))
      case q1x0_31 => (intro _; exact Z.pick rfl rfl)
      case q1x0_32 => (intro _; exact Z.mv rfl)
      case q1x0_33 => exact Z.on (Z.ldw 1 ty27 rfl rfl rfl)
      case q1x0_34 => (intro _; exact Z.on (Z.eq (u' := .v (.bool true)) (Z.call rfl rfl (fun _ => right_spec _ huf _)) (by rw [ru1])))
      case q1x0_35 => (intro _; exact Z.pick rfl rfl)
      case q1x0_36 => (intro _; exact Z.mv rfl)
      case q1x0_37 => exact Z.on (Z.ldw 1 ty27 rfl rfl rfl)
      case q1x0_38 => (intro _; exact Z.on (Z.mv rfl))
      case q1x0_39 => (intro _; exact Z.on (Z.eq (u' := .agg (encV (.mk 5 n t ku vu))) (Z.call rfl rfl (fun _ => without_spec _ huf _ _)) (by rw [wu])))
      case q1x0_40 => exact Z.on (Z.ldw 1 ty27 rfl rfl rfl)
      case q1x0_41 => (intro _; exact Z.on (Z.eq (u' := .v (.bool true)) (Z.call rfl rfl (fun _ => same_spec _ huf (.mk 5 n t ku vu) _)) (by rw [same_self _ huf])))
      case q1x0_42 => (intro _; exact Z.pick rfl rfl)
      case q1x0_43 => (intro _; exact Z.mv rfl)
      case q1x0_44 => exact Z.on (Z.ldw 5 ty27 rfl rfl rfl)
      case q1x0_45 => (intro _; exact Z.on (Z.mv rfl))
      case q1x0_46 => exact Z.on (Z.ldw 6 ty27 rfl rfl (encV_len _))
      case q1x0_47 => (intro _; exact Z.on (Z.eq (u' := .agg (encV (.mk 5 n t kw vw))) (Z.call rfl rfl (fun _ => with_spec _ hwf _ x hgx.1 _)) (by rw [w4])))
      case q1x0_48 => exact Z.on (Z.ldw 5 ty27 rfl rfl rfl)
      case q1x0_49 => (intro _; exact Z.on (Z.eq (u' := .v (.bool true)) (Z.call rfl rfl (fun _ => same_spec _ hwf (.mk 5 n t kw vw) _)) (by rw [same_self _ hwf])))
      case q1x0_50 => (intro _; exact Z.pick rfl rfl)
      case q1x0_51 => (intro _; exact Z.mv rfl)
      case q1x0_52 => exact Z.on (Z.ldw 1 ty27 rfl rfl rfl)
      case q1x0_53 => exact Z.on (Z.ldw 7 ty27 rfl rfl rfl)
      case q1x0_54 => (intro _; exact Z.on (Z.mv rfl))
      case q1x0_55 => (intro _; exact Z.on (Z.eq (u' := .agg (encV (.mk 5 n t ku vu))) (Z.call rfl rfl (fun _ => without_spec _ hvf _ _)) (by rw [u1])))
      case q1x0_56 => (intro _; exact Z.on (Z.eq (u' := .v (.bool true)) (Z.call rfl rfl (fun _ => same_spec _ huf (.mk 5 n t ku vu) _)) (by rw [same_self _ huf])))
      case q1x0_57 => (intro _; exact Z.pick rfl rfl)
      case q1x0_58 => (intro _; exact Z.as rfl)
      refine CH.nil <| ?_
      simp only [app, finL]
      refine UQ.then <| UW.ret <| S.rtR (fun _ => res_tmp rfl rfl) <| ?_
      rfl
  · refine UCall (n := 140) (H0 := H) (objs := []) Try.func7 (by kernel_rfl) rfl (by rw [Try.ntmps7]; rfl) .nil <| ?_
    refine Q.rg <| Q.as rfl <| Q.nt <| Q.rg <| S.qu (Z.bl row24 rfl rfl (lit_ok rfl)) <| Q.as rfl <| Q.nt <| Q.rg <| Q.mv rfl <| Q.mv rfl <| S.qu (Z.call rfl rfl (fun _ => hpart _)) <| S.dd <| D.al z27 rfl rfl rfl fun p10 => S.s <| D.st 0 ty27 rfl rfl rfl rfl rfl rfl rfl rfl fun _ => Q.nt <| Q.rg <| Q.mv rfl <| Q.mv rfl <| S.qu (Z.call rfl rfl (fun _ => hpart2 _)) <| S.dd <| D.al z27 rfl rfl rfl fun p11 => S.s <| D.stw 0 ty27 rfl rfl rfl rfl (by exact encV_cell _) (encV_len _) rfl rfl fun _ => ?_
    refine Q.nt <| S.sq <| Q.rg <| Q.fa f27_0 rfl <| Q.lc 1 ty3 rfl rfl rfl <| Q.bi rfl rfl rfl <| Q.mv rfl <| S.tT 34 (bne_t (by omega)) <| Q.of <| Q.of <| Q.of <| Q.pk rfl rfl <| Q.nt <| S.cT rfl rfl <| Q.rg <| S.qu (Z.call rfl rfl (fun _ => known_spec _)) <| Q.as rfl <| Q.nt <| UW.ret <| UQ.passR <| S.rtR (fun _ => res_tmp rfl rfl) <| ?_
    rfl
end Go.Proofs.Ytopaddebalfoeaa
