/- RedactName: what rules do not ask for changes no name; what they ask for stays, and tells two events apart. -/
import Derived.Test.YtgmfgmbgmjbdhaaGreatDoorKv41
namespace Go.Proofs.YtgmfgmbgmjbdhaaGreatDoor
open Go Go.RowKit Go.Eng
set_option linter.unusedSimpArgs false
set_option linter.unusedVariables false
set_option maxRecDepth 100000
set_option maxHeartbeats 4000000
def senderB : ByteArray := ⟨#[115, 101, 110, 100, 101, 114]⟩
def atherB : ByteArray := ⟨#[64, 111, 116, 104, 101, 114, 58, 115]⟩
def sameS (v : V) : Bool := (getV v senderB).2 && sameV (getV v senderB).1 (strV atherB)
theorem field_unsigned : hasB fieldL unsignedB = false := by kernel_rfl
theorem field_sender : hasB fieldL senderB = true := by kernel_rfl
theorem name_unsigned {v : V} (h : O v) (x : V) : redP (withV v unsignedB x) = redP v :=
  (h.with _ _).red_eq h fun key hk => h.get_other (fun e => by rw [e, field_unsigned] at hk; cases hk) _
theorem name_same {v : V} (h : O v) (hs : sameS v = true) : withV v senderB (strV atherB) = v := by
  unfold sameS at hs
  rw [Bool.and_eq_true] at hs
  refine (h.with _ _).ext h fun key => ?_
  by_cases hk : key = senderB
  · subst hk
    rw [h.get_with]
    have h2 := same_eq hs.2
    rw [← h2, ← hs.1]
  · exact h.get_other hk _
theorem name_red {v : V} (h : O v) (hf : Fits (redP v)) : sameV (redP (withV v senderB (strV atherB))) (redP v) = sameS v := by
  cases hs : sameS v with
  | true =>
    rw [name_same h hs]
    exact same_self _ hf
  | false =>
    refine same_ne fun e => ?_
    have hne : ¬ (senderB = contentB ∧ (getV v contentB).1.k = 5) := fun h => absurd h.1 (by decide)
    have hne2 : ¬ (senderB = contentB ∧ (getV (withV v senderB (strV atherB)) contentB).1.k = 5) := fun h => absurd h.1 (by decide)
    have e1 := (h.with senderB (strV atherB)).get_red senderB
    rw [if_pos field_sender, if_neg hne2, h.get_with, e] at e1
    have e2 := h.get_red senderB
    rw [if_pos field_sender, if_neg hne] at e2
    have e3 : getV v senderB = (strV atherB, true) := e2.symm.trans e1
    unfold sameS at hs
    rw [e3] at hs
    have := same_self (strV atherB) (strV_fits _)
    simp [this] at hs
theorem name_law (c d : List Int) (k : Int) (hc : Bys c) (hd : Bys d) (hk0 : 0 ≤ k) (hk1 : k ≤ 255) (H : Hp) (hG : Glob H) : ACall Tryz.prog 8 [u8s c, u8s d, .v (.int .u8 k)] H (IsR H (.v (.bool true))) := by
  obtain ⟨hve, hvw⟩ := wide_good hc k hk0
  have hvo := wide_O c k
  have hxf := (partV_good d k hk0).1
  have hxw := part_wt hd k hk0
  have hwide := fun H => wide_spec c hc k hk0 (by omega) H
  have hpart := fun H => part_spec d hd k hk0 (by omega) H
  generalize wideV c k = v at *
  generalize partV d k = x at *
  have hvf := hve.fits (by decide)
  have hrf : Fits (redP v) := red_fits hvf (by have := hve.le; omega)
  have hrw := hvw.red (by decide)
  have wall : ∀ (key : ByteArray) (y : V), key.size ≤ 20 → Fits y → Wt 100000 y → Fits (withV v key y) ∧ Pr (redP (withV v key y)) := fun key y h1 h2 h3 => by
    have e := hve.with (key := key) (y := y) (by omega) h2
    have w := hvw.with h3 h1
    have ef := e.fits (by decide)
    exact ⟨ef, pr_of (red_fits ef (by have := e.le; omega)) ((w.red (by omega)).up (by decide))⟩
  obtain ⟨haf, hap⟩ := wall unsignedB x (by decide) hxf hxw
  obtain ⟨hbf, hbp⟩ := wall senderB (strV atherB) (by decide) (strV_fits _) (.str (by decide))
  have hvp := pr_of hrf (hrw.up (by decide))
  have hiv := fun H h => id_spec v hvf hvp H h
  have hia : ∀ H, Glob H → ACall Tryz.prog 27 [.agg (encV (withV v unsignedB x))] H (IsR H (.v (.string (idB v)))) := fun H h => by
    have := id_spec _ haf hap H h
    unfold idB at this
    rwa [name_unsigned hvo] at this
  have hib := fun H h => id_spec _ hbf hbp H h
  have hrb := fun H h => redact_spec _ hbf H h
  have hrv := fun H h => redact_spec v hvf H h
  have hsm : ∀ H, ACall Tryz.prog 18 [.agg (encV (redP (withV v senderB (strV atherB)))), .agg (encV (redP v))] H (IsR H (.v (.bool (sameS v)))) := fun H => by
    have := sameR_spec _ hbp.fits (redP v) H
    rwa [name_red hvo hrf] at this
  have hwa := fun H => withR_spec v hvf hve.keys unsignedB x H
  have hwb := fun H => withR_spec v hvf hve.keys senderB (strV atherB) H
  have hgf := get_fits hvf senderB
  have hgt := fun H => getR_spec v hvf senderB H
  have hso := fun H => sameR_spec _ hgf (strV atherB) H
  have hid : sameS v = true → idB (withV v senderB (strV atherB)) = idB v := fun h => by rw [name_same hvo h]
  have hsS : sameS v = ((getV v senderB).2 && sameV (getV v senderB).1 (strV atherB)) := rfl
  clear wall hve hvw hvo hrf hrw hap hbp hvp
  generalize sameS v = sm at *
  generalize idB v = iv at *
  generalize idB (withV v senderB (strV atherB)) = ib at *
  generalize redP v = rv at *
  generalize redP (withV v senderB (strV atherB)) = rb at *
  generalize withV v unsignedB x = a at *
  generalize withV v senderB (strV atherB) = b at *
  generalize sameV (getV v senderB).1 (strV atherB) = so at *
  generalize (getV v senderB).2 = is at *
  generalize (getV v senderB).1 = old at *
  subst hsS
  cases is with
  | false =>
    refine UCall (n := 65) (H0 := H) (objs := []) Tryz.func8 (by kernel_rfl) rfl (by rw [Tryz.ntmps8]; rfl) .nil <| ?_
    refine Q.rg <| Q.as rfl <| Q.nt <| Q.rg <| Q.mv rfl <| Q.mv rfl <| S.qu (Z.call rfl rfl (fun H => hwide H)) <| S.dd <| D.al z26 rfl rfl rfl fun p7 => S.s <| D.stw 0 ty26 rfl rfl rfl rfl (by exact encV_cell _) (encV_len _) rfl rfl fun _ => ?_
    refine Q.nt <| Q.rg <| Q.mv rfl <| Q.mv rfl <| S.qu (Z.call rfl rfl (fun H => hpart H)) <| S.dd <| D.al z26 rfl rfl rfl fun p8 => S.s <| D.stw 0 ty26 rfl rfl rfl rfl (by exact encV_cell _) (encV_len _) rfl rfl fun _ => ?_
    refine Q.nt <| Q.rg <| S.qu (Z.ldw 1 ty26 rfl rfl (encV_len _)) <| S.qu (Z.ldw 0 ty26 rfl rfl (encV_len _)) <| S.qu (Z.call rfl rfl (fun H => hwa H)) <| S.dd <| D.al z26 rfl rfl rfl fun p9 => S.s <| D.stw 0 ty26 rfl rfl rfl rfl (by exact encV_cell _) (encV_len _) rfl rfl fun _ => ?_
    refine Q.nt <| S.sq <| ?_
    refine' UW.drawk (by kernel_rfl) [2] [0, 0, 3, 0, 15] [some 23, some 24, some 25, none, none] [some (23, _), some (24, _), some (25, _), none, none] [3, 4] [] rfl (by decide) (by decide) (QAll.kept (by decide) rfl rfl ?q0x0_0 (QAll.free (by decide) rfl rfl ?q0x0_1 (QAll.free (by decide) rfl rfl ?q0x0_2 (QAll.skip (QAll.skip QAll.nil))))) ?q0x0_k
    case q0x0_0 => (intro _ hK; exact Z.kw 0 hK ty26 rfl rfl (encV_len _))
    case q0x0_1 => (intro _; exact Z.call rfl rfl (fun H => strR_spec atherB H))
    case q0x0_2 => (intro _; exact Z.call rfl rfl (fun H => hwb H))
    refine CH.cons rfl rfl (by decide) ?_ (.c 2 rfl .n)
    refine D.al z26 rfl rfl rfl fun p10 => ?_
    refine CH.cons0 rfl rfl ?_ (.c 3 rfl .n)
    refine D.stw 0 ty26 rfl rfl rfl rfl (by exact encV_cell _) (encV_len _) rfl rfl fun _ => ?_
    refine CH.nil ?_ (.c 3 rfl .n)
    simp only [app, finL]
    refine UQ.then <| Q.rg <| S.qu (Z.ldw 3 ty26 rfl rfl (encV_len _)) <| S.qu (Z.call rfl rfl (fun H => hgt H)) <| Q.mv rfl <| S.qu (Z.ex rfl rfl) <| S.qu (Z.ex rfl rfl) <| S.dd <| D.al z26 rfl rfl rfl fun p11 => S.s <| D.stw 0 ty26 rfl rfl rfl rfl (by exact encV_cell _) (encV_len _) rfl rfl fun _ => ?_
    refine Q.as rfl <| Q.nt <| S.sq <| ?_
    refine' UW.draw' (by kernel_rfl) [0, 1, 3, 3, 15, 31, 63] [some 31, some 32, some 33, some 34, some 35, some 36, some 13] [some (31, _), some (32, _), some (33, _), some (34, _), some (35, _), some (36, _), some (13, _)] [] [2] rfl (by decide) (by decide) (QAll.free (by decide) rfl rfl ?q0x1_0 (QAll.free (by decide) rfl rfl ?q0x1_1 (QAll.held (by decide) rfl rfl ?q0x1_2 (QAll.free (by decide) rfl rfl ?q0x1_3 (QAll.free (by decide) rfl rfl ?q0x1_4 (QAll.free (by decide) rfl rfl ?q0x1_5 (QAll.free (by decide) rfl rfl ?q0x1_6 QAll.nil))))))) ?q0x1_k
    case q0x1_0 => (intro _; exact Z.mv rfl)
    case q0x1_1 => (intro _; exact Z.mv rfl)
    case q0x1_2 => exact Z.of
    case q0x1_3 => (intro _; exact Z.of)
    case q0x1_4 => (intro _; exact Z.of)
    case q0x1_5 => (intro _; exact Z.pick rfl rfl)
    case q0x1_6 => (intro _; exact Z.as rfl)
    refine CH.nil <| ?_
    simp only [app, finL]
    refine UQ.then <| S.sq <| ?_
    refine' UW.draw' (by kernel_rfl) [0, 1, 3, 7, 3, 31, 63, 127, 255, 511, 1023, 2047, 4095, 8191, 4095, 32767, 65535, 131071, 262143, 524287, 1048575, 2097151, 1048575, 8388607, 16777215, 1048575, 67108863, 134217727, 268435455] [some 37, some 38, some 39, some 40, some 41, some 42, some 43, some 44, some 45, some 46, some 47, some 48, some 49, some 50, some 51, some 52, some 53, some 54, some 55, some 56, some 57, some 58, some 59, some 60, some 61, some 62, some 63, some 64, some 6] [some (37, _), some (38, _), some (39, _), some (40, _), some (41, _), some (42, _), some (43, _), some (44, _), some (45, _), some (46, _), some (47, _), some (48, _), some (49, _), some (50, _), some (51, _), some (52, _), some (53, _), some (54, _), some (55, _), some (56, _), some (57, _), some (58, _), some (59, _), some (60, _), some (61, _), some (62, _), some (63, _), some (64, _), some (6, _)] [] [2, 4, 12, 14, 20, 22] rfl (by decide) (by decide) (QAll.free (by decide) rfl rfl ?q0x2_0 (QAll.free (by decide) rfl rfl ?q0x2_1 (QAll.held (by decide) rfl rfl ?q0x2_2 (QAll.free (by decide) rfl rfl ?q0x2_3 (QAll.held (by decide) rfl rfl ?q0x2_4 (QAll.free (by decide) rfl rfl ?q0x2_5 (QAll.free (by decide) rfl rfl ?q0x2_6 (QAll.free (by decide) rfl rfl ?q0x2_7 (QAll.free (by decide) rfl rfl ?q0x2_8 (QAll.free (by decide) rfl rfl ?q0x2_9 (QAll.free (by decide) rfl rfl ?q0x2_10 (QAll.free (by decide) rfl rfl ?q0x2_11 (QAll.held (by decide) rfl rfl ?q0x2_12 (QAll.free (by decide) rfl rfl ?q0x2_13 (QAll.held (by decide) rfl rfl ?q0x2_14 (QAll.free (by decide) rfl rfl ?q0x2_15 (QAll.free (by decide) rfl rfl ?q0x2_16 (QAll.free (by decide) rfl rfl ?q0x2_17 (QAll.free (by decide) rfl rfl ?q0x2_18 (QAll.free (by decide) rfl rfl ?q0x2_19 (QAll.held (by decide) rfl rfl ?q0x2_20 (QAll.free (by decide) rfl rfl ?q0x2_21 (QAll.held (by decide) rfl rfl ?q0x2_22 (QAll.free (by decide) rfl rfl ?q0x2_23 (QAll.free (by decide) rfl rfl ?q0x2_24 (QAll.free (by decide) rfl rfl ?q0x2_25 (QAll.free (by decide) rfl rfl ?q0x2_26 (QAll.free (by decide) rfl rfl ?q0x2_27 (QAll.free (by decide) rfl rfl ?q0x2_28 QAll.nil))))))))))))))))))))))))))))) ?q0x2_k
    case q0x2_0 => (intro _; exact Z.callg rfl rfl (fun _ hS => kn7_spec _ (hG.mono hS)))
    case q0x2_1 => (intro _; exact Z.mv rfl)
    case q0x2_2 => exact Z.on (Z.ldw 2 ty26 rfl rfl (encV_len _))
    case q0x2_3 => (intro _; exact Z.on (Z.callg rfl rfl (fun _ hS => hia _ (hG.mono hS))))
    case q0x2_4 => exact Z.on (Z.ldw 4 ty26 rfl rfl (encV_len _))
    case q0x2_5 => (intro _; exact Z.on (Z.callg rfl rfl (fun _ hS => hiv _ (hG.mono hS))))
    case q0x2_6 => (intro _; exact Z.on (Z.eq (u' := .v (.bool true)) (Z.bs rfl rfl rfl) (by simp)))
    case q0x2_7 => (intro _; exact Z.pick rfl rfl)
    case q0x2_8 => (intro _; exact Z.mv rfl)
    case q0x2_9 => (intro _; exact Z.on (Z.mv rfl))
    case q0x2_10 => (intro _; exact Z.on (Z.not rfl))
    case q0x2_11 => (intro _; exact Z.on (Z.mv rfl))
    case q0x2_12 => exact Z.of
    case q0x2_13 => (intro _; exact Z.of)
    case q0x2_14 => exact Z.of
    case q0x2_15 => (intro _; exact Z.of)
    case q0x2_16 => (intro _; exact Z.of)
    case q0x2_17 => (intro _; exact Z.on (Z.pick rfl rfl))
    case q0x2_18 => (intro _; exact Z.pick rfl rfl)
    case q0x2_19 => (intro _; exact Z.mv rfl)
    case q0x2_20 => exact Z.on (Z.ldw 1 ty26 rfl rfl (encV_len _))
    case q0x2_21 => (intro _; exact Z.on (Z.callg rfl rfl (fun _ hS => hrb _ (hG.mono hS))))
    case q0x2_22 => exact Z.on (Z.ldw 4 ty26 rfl rfl (encV_len _))
    case q0x2_23 => (intro _; exact Z.on (Z.callg rfl rfl (fun _ hS => hrv _ (hG.mono hS))))
    case q0x2_24 => (intro _; exact Z.on (Z.call rfl rfl (fun H => hsm H)))
    case q0x2_25 => (intro _; exact Z.on (Z.mv rfl))
    case q0x2_26 => (intro _; exact Z.on (Z.eq (u' := .v (.bool true)) (Z.beq Tryz.underlying4 rfl rfl) (by simp)))
    case q0x2_27 => (intro _; exact Z.pick rfl rfl)
    case q0x2_28 => (intro _; exact Z.as rfl)
    refine CH.nil <| ?_
    simp only [app, finL]
    refine UQ.then <| UW.ret <| S.rtR (fun _ => res_tmp rfl rfl) <| ?_
    rfl
  | true =>
    cases so with
    | false =>
      refine UCall (n := 65) (H0 := H) (objs := []) Tryz.func8 (by kernel_rfl) rfl (by rw [Tryz.ntmps8]; rfl) .nil <| ?_
      refine Q.rg <| Q.as rfl <| Q.nt <| Q.rg <| Q.mv rfl <| Q.mv rfl <| S.qu (Z.call rfl rfl (fun H => hwide H)) <| S.dd <| D.al z26 rfl rfl rfl fun p7 => S.s <| D.stw 0 ty26 rfl rfl rfl rfl (by exact encV_cell _) (encV_len _) rfl rfl fun _ => ?_
      refine Q.nt <| Q.rg <| Q.mv rfl <| Q.mv rfl <| S.qu (Z.call rfl rfl (fun H => hpart H)) <| S.dd <| D.al z26 rfl rfl rfl fun p8 => S.s <| D.stw 0 ty26 rfl rfl rfl rfl (by exact encV_cell _) (encV_len _) rfl rfl fun _ => ?_
      refine Q.nt <| Q.rg <| S.qu (Z.ldw 1 ty26 rfl rfl (encV_len _)) <| S.qu (Z.ldw 0 ty26 rfl rfl (encV_len _)) <| S.qu (Z.call rfl rfl (fun H => hwa H)) <| S.dd <| D.al z26 rfl rfl rfl fun p9 => S.s <| D.stw 0 ty26 rfl rfl rfl rfl (by exact encV_cell _) (encV_len _) rfl rfl fun _ => ?_
      refine Q.nt <| S.sq <| ?_
      refine' UW.drawk (by kernel_rfl) [2] [0, 0, 3, 0, 15] [some 23, some 24, some 25, none, none] [some (23, _), some (24, _), some (25, _), none, none] [3, 4] [] rfl (by decide) (by decide) (QAll.kept (by decide) rfl rfl ?q1x0_0 (QAll.free (by decide) rfl rfl ?q1x0_1 (QAll.free (by decide) rfl rfl ?q1x0_2 (QAll.skip (QAll.skip QAll.nil))))) ?q1x0_k
      case q1x0_0 => (intro _ hK; exact Z.kw 0 hK ty26 rfl rfl (encV_len _))
      case q1x0_1 => (intro _; exact Z.call rfl rfl (fun H => strR_spec atherB H))
      case q1x0_2 => (intro _; exact Z.call rfl rfl (fun H => hwb H))
      refine CH.cons rfl rfl (by decide) ?_ (.c 2 rfl .n)
      refine D.al z26 rfl rfl rfl fun p10 => ?_
      refine CH.cons0 rfl rfl ?_ (.c 3 rfl .n)
      refine D.stw 0 ty26 rfl rfl rfl rfl (by exact encV_cell _) (encV_len _) rfl rfl fun _ => ?_
      refine CH.nil ?_ (.c 3 rfl .n)
      simp only [app, finL]
      refine UQ.then <| Q.rg <| S.qu (Z.ldw 3 ty26 rfl rfl (encV_len _)) <| S.qu (Z.call rfl rfl (fun H => hgt H)) <| Q.mv rfl <| S.qu (Z.ex rfl rfl) <| S.qu (Z.ex rfl rfl) <| S.dd <| D.al z26 rfl rfl rfl fun p11 => S.s <| D.stw 0 ty26 rfl rfl rfl rfl (by exact encV_cell _) (encV_len _) rfl rfl fun _ => ?_
      refine Q.as rfl <| Q.nt <| S.sq <| ?_
      refine' UW.draw' (by kernel_rfl) [0, 1, 3, 3, 15, 31, 63] [some 31, some 32, some 33, some 34, some 35, some 36, some 13] [some (31, _), some (32, _), some (33, _), some (34, _), some (35, _), some (36, _), some (13, _)] [] [2] rfl (by decide) (by decide) (QAll.free (by decide) rfl rfl ?q1x1_0 (QAll.free (by decide) rfl rfl ?q1x1_1 (QAll.held (by decide) rfl rfl ?q1x1_2 (QAll.free (by decide) rfl rfl ?q1x1_3 (QAll.free (by decide) rfl rfl ?q1x1_4 (QAll.free (by decide) rfl rfl ?q1x1_5 (QAll.free (by decide) rfl rfl ?q1x1_6 QAll.nil))))))) ?q1x1_k
      case q1x1_0 => (intro _; exact Z.mv rfl)
      case q1x1_1 => (intro _; exact Z.mv rfl)
      case q1x1_2 => exact Z.on (Z.ldw 0 ty26 rfl rfl (encV_len _))
      case q1x1_3 => (intro _; exact Z.on (Z.call rfl rfl (fun H => strR_spec atherB H)))
      case q1x1_4 => (intro _; exact Z.on (Z.call rfl rfl (fun H => hso H)))
      case q1x1_5 => (intro _; exact Z.pick rfl rfl)
      case q1x1_6 => (intro _; exact Z.as rfl)
      refine CH.nil <| ?_
      simp only [app, finL]
      refine UQ.then <| S.sq <| ?_
      refine' UW.draw' (by kernel_rfl) [0, 1, 3, 7, 3, 31, 63, 127, 255, 511, 1023, 2047, 4095, 8191, 4095, 32767, 65535, 131071, 262143, 524287, 1048575, 2097151, 1048575, 8388607, 16777215, 1048575, 67108863, 134217727, 268435455] [some 37, some 38, some 39, some 40, some 41, some 42, some 43, some 44, some 45, some 46, some 47, some 48, some 49, some 50, some 51, some 52, some 53, some 54, some 55, some 56, some 57, some 58, some 59, some 60, some 61, some 62, some 63, some 64, some 6] [some (37, _), some (38, _), some (39, _), some (40, _), some (41, _), some (42, _), some (43, _), some (44, _), some (45, _), some (46, _), some (47, _), some (48, _), some (49, _), some (50, _), some (51, _), some (52, _), some (53, _), some (54, _), some (55, _), some (56, _), some (57, _), some (58, _), some (59, _), some (60, _), some (61, _), some (62, _), some (63, _), some (64, _), some (6, _)] [] [2, 4, 12, 14, 20, 22] rfl (by decide) (by decide) (QAll.free (by decide) rfl rfl ?q1x2_0 (QAll.free (by decide) rfl rfl ?q1x2_1 (QAll.held (by decide) rfl rfl ?q1x2_2 (QAll.free (by decide) rfl rfl ?q1x2_3 (QAll.held (by decide) rfl rfl ?q1x2_4 (QAll.free (by decide) rfl rfl ?q1x2_5 (QAll.free (by decide) rfl rfl ?q1x2_6 (QAll.free (by decide) rfl rfl ?q1x2_7 (QAll.free (by decide) rfl rfl ?q1x2_8 (QAll.free (by decide) rfl rfl ?q1x2_9 (QAll.free (by decide) rfl rfl ?q1x2_10 (QAll.free (by decide) rfl rfl ?q1x2_11 (QAll.held (by decide) rfl rfl ?q1x2_12 (QAll.free (by decide) rfl rfl ?q1x2_13 (QAll.held (by decide) rfl rfl ?q1x2_14 (QAll.free (by decide) rfl rfl ?q1x2_15 (QAll.free (by decide) rfl rfl ?q1x2_16 (QAll.free (by decide) rfl rfl ?q1x2_17 (QAll.free (by decide) rfl rfl ?q1x2_18 (QAll.free (by decide) rfl rfl ?q1x2_19 (QAll.held (by decide) rfl rfl ?q1x2_20 (QAll.free (by decide) rfl rfl ?q1x2_21 (QAll.held (by decide) rfl rfl ?q1x2_22 (QAll.free (by decide) rfl rfl ?q1x2_23 (QAll.free (by decide) rfl rfl ?q1x2_24 (QAll.free (by decide) rfl rfl ?q1x2_25 (QAll.free (by decide) rfl rfl ?q1x2_26 (QAll.free (by decide) rfl rfl ?q1x2_27 (QAll.free (by decide) rfl rfl ?q1x2_28 QAll.nil))))))))))))))))))))))))))))) ?q1x2_k
      case q1x2_0 => (intro _; exact Z.callg rfl rfl (fun _ hS => kn7_spec _ (hG.mono hS)))
      case q1x2_1 => (intro _; exact Z.mv rfl)
      case q1x2_2 => exact Z.on (Z.ldw 2 ty26 rfl rfl (encV_len _))
      case q1x2_3 => (intro _; exact Z.on (Z.callg rfl rfl (fun _ hS => hia _ (hG.mono hS))))
      case q1x2_4 => exact Z.on (Z.ldw 4 ty26 rfl rfl (encV_len _))
      case q1x2_5 => (intro _; exact Z.on (Z.callg rfl rfl (fun _ hS => hiv _ (hG.mono hS))))
      case q1x2_6 => (intro _; exact Z.on (Z.eq (u' := .v (.bool true)) (Z.bs rfl rfl rfl) (by simp)))
      case q1x2_7 => (intro _; exact Z.pick rfl rfl)
      case q1x2_8 => (intro _; exact Z.mv rfl)
      case q1x2_9 => (intro _; exact Z.on (Z.mv rfl))
      case q1x2_10 => (intro _; exact Z.on (Z.not rfl))
      case q1x2_11 => (intro _; exact Z.on (Z.mv rfl))
      case q1x2_12 => exact Z.of
      case q1x2_13 => (intro _; exact Z.of)
      case q1x2_14 => exact Z.of
      case q1x2_15 => (intro _; exact Z.of)
      case q1x2_16 => (intro _; exact Z.of)
      case q1x2_17 => (intro _; exact Z.on (Z.pick rfl rfl))
      case q1x2_18 => (intro _; exact Z.pick rfl rfl)
      case q1x2_19 => (intro _; exact Z.mv rfl)
      case q1x2_20 => exact Z.on (Z.ldw 1 ty26 rfl rfl (encV_len _))
      case q1x2_21 => (intro _; exact Z.on (Z.callg rfl rfl (fun _ hS => hrb _ (hG.mono hS))))
      case q1x2_22 => exact Z.on (Z.ldw 4 ty26 rfl rfl (encV_len _))
      case q1x2_23 => (intro _; exact Z.on (Z.callg rfl rfl (fun _ hS => hrv _ (hG.mono hS))))
      case q1x2_24 => (intro _; exact Z.on (Z.call rfl rfl (fun H => hsm H)))
      case q1x2_25 => (intro _; exact Z.on (Z.mv rfl))
      case q1x2_26 => (intro _; exact Z.on (Z.eq (u' := .v (.bool true)) (Z.beq Tryz.underlying4 rfl rfl) (by simp)))
      case q1x2_27 => (intro _; exact Z.pick rfl rfl)
      case q1x2_28 => (intro _; exact Z.as rfl)
      refine CH.nil <| ?_
      simp only [app, finL]
      refine UQ.then <| UW.ret <| S.rtR (fun _ => res_tmp rfl rfl) <| ?_
      rfl
    | true =>
      have hib2 : ∀ H, Glob H → ACall Tryz.prog 27 [.agg (encV b)] H (IsR H (.v (.string iv))) := fun H h => hid rfl ▸ hib H h
      refine UCall (n := 65) (H0 := H) (objs := []) Tryz.func8 (by kernel_rfl) rfl (by rw [Tryz.ntmps8]; rfl) .nil <| ?_
      refine Q.rg <| Q.as rfl <| Q.nt <| Q.rg <| Q.mv rfl <| Q.mv rfl <| S.qu (Z.call rfl rfl (fun H => hwide H)) <| S.dd <| D.al z26 rfl rfl rfl fun p7 => S.s <| D.stw 0 ty26 rfl rfl rfl rfl (by exact encV_cell _) (encV_len _) rfl rfl fun _ => ?_
      refine Q.nt <| Q.rg <| Q.mv rfl <| Q.mv rfl <| S.qu (Z.call rfl rfl (fun H => hpart H)) <| S.dd <| D.al z26 rfl rfl rfl fun p8 => S.s <| D.stw 0 ty26 rfl rfl rfl rfl (by exact encV_cell _) (encV_len _) rfl rfl fun _ => ?_
      refine Q.nt <| Q.rg <| S.qu (Z.ldw 1 ty26 rfl rfl (encV_len _)) <| S.qu (Z.ldw 0 ty26 rfl rfl (encV_len _)) <| S.qu (Z.call rfl rfl (fun H => hwa H)) <| S.dd <| D.al z26 rfl rfl rfl fun p9 => S.s <| D.stw 0 ty26 rfl rfl rfl rfl (by exact encV_cell _) (encV_len _) rfl rfl fun _ => ?_
      refine Q.nt <| S.sq <| ?_
      refine' UW.drawk (by kernel_rfl) [2] [0, 0, 3, 0, 15] [some 23, some 24, some 25, none, none] [some (23, _), some (24, _), some (25, _), none, none] [3, 4] [] rfl (by decide) (by decide) (QAll.kept (by decide) rfl rfl ?q2x0_0 (QAll.free (by decide) rfl rfl ?q2x0_1 (QAll.free (by decide) rfl rfl ?q2x0_2 (QAll.skip (QAll.skip QAll.nil))))) ?q2x0_k
      case q2x0_0 => (intro _ hK; exact Z.kw 0 hK ty26 rfl rfl (encV_len _))
      case q2x0_1 => (intro _; exact Z.call rfl rfl (fun H => strR_spec atherB H))
      case q2x0_2 => (intro _; exact Z.call rfl rfl (fun H => hwb H))
      refine CH.cons rfl rfl (by decide) ?_ (.c 2 rfl .n)
      refine D.al z26 rfl rfl rfl fun p10 => ?_
      refine CH.cons0 rfl rfl ?_ (.c 3 rfl .n)
      refine D.stw 0 ty26 rfl rfl rfl rfl (by exact encV_cell _) (encV_len _) rfl rfl fun _ => ?_
      refine CH.nil ?_ (.c 3 rfl .n)
      simp only [app, finL]
      refine UQ.then <| Q.rg <| S.qu (Z.ldw 3 ty26 rfl rfl (encV_len _)) <| S.qu (Z.call rfl rfl (fun H => hgt H)) <| Q.mv rfl <| S.qu (Z.ex rfl rfl) <| S.qu (Z.ex rfl rfl) <| S.dd <| D.al z26 rfl rfl rfl fun p11 => S.s <| D.stw 0 ty26 rfl rfl rfl rfl (by exact encV_cell _) (encV_len _) rfl rfl fun _ => ?_
      refine Q.as rfl <| Q.nt <| S.sq <| ?_
      refine' UW.draw' (by kernel_rfl) [0, 1, 3, 3, 15, 31, 63] [some 31, some 32, some 33, some 34, some 35, some 36, some 13] [some (31, _), some (32, _), some (33, _), some (34, _), some (35, _), some (36, _), some (13, _)] [] [2] rfl (by decide) (by decide) (QAll.free (by decide) rfl rfl ?q2x1_0 (QAll.free (by decide) rfl rfl ?q2x1_1 (QAll.held (by decide) rfl rfl ?q2x1_2 (QAll.free (by decide) rfl rfl ?q2x1_3 (QAll.free (by decide) rfl rfl ?q2x1_4 (QAll.free (by decide) rfl rfl ?q2x1_5 (QAll.free (by decide) rfl rfl ?q2x1_6 QAll.nil))))))) ?q2x1_k
      case q2x1_0 => (intro _; exact Z.mv rfl)
      case q2x1_1 => (intro _; exact Z.mv rfl)
      case q2x1_2 => exact Z.on (Z.ldw 0 ty26 rfl rfl (encV_len _))
      case q2x1_3 => (intro _; exact Z.on (Z.call rfl rfl (fun H => strR_spec atherB H)))
      case q2x1_4 => (intro _; exact Z.on (Z.call rfl rfl (fun H => hso H)))
      case q2x1_5 => (intro _; exact Z.pick rfl rfl)
      case q2x1_6 => (intro _; exact Z.as rfl)
      refine CH.nil <| ?_
      simp only [app, finL]
      refine UQ.then <| S.sq <| ?_
      refine' UW.draw' (by kernel_rfl) [0, 1, 3, 7, 3, 31, 63, 127, 255, 511, 1023, 2047, 4095, 8191, 4095, 32767, 65535, 131071, 262143, 524287, 1048575, 2097151, 1048575, 8388607, 16777215, 1048575, 67108863, 134217727, 268435455] [some 37, some 38, some 39, some 40, some 41, some 42, some 43, some 44, some 45, some 46, some 47, some 48, some 49, some 50, some 51, some 52, some 53, some 54, some 55, some 56, some 57, some 58, some 59, some 60, some 61, some 62, some 63, some 64, some 6] [some (37, _), some (38, _), some (39, _), some (40, _), some (41, _), some (42, _), some (43, _), some (44, _), some (45, _), some (46, _), some (47, _), some (48, _), some (49, _), some (50, _), some (51, _), some (52, _), some (53, _), some (54, _), some (55, _), some (56, _), some (57, _), some (58, _), some (59, _), some (60, _), some (61, _), some (62, _), some (63, _), some (64, _), some (6, _)] [] [2, 4, 12, 14, 20, 22] rfl (by decide) (by decide) (QAll.free (by decide) rfl rfl ?q2x2_0 (QAll.free (by decide) rfl rfl ?q2x2_1 (QAll.held (by decide) rfl rfl ?q2x2_2 (QAll.free (by decide) rfl rfl ?q2x2_3 (QAll.held (by decide) rfl rfl ?q2x2_4 (QAll.free (by decide) rfl rfl ?q2x2_5 (QAll.free (by decide) rfl rfl ?q2x2_6 (QAll.free (by decide) rfl rfl ?q2x2_7 (QAll.free (by decide) rfl rfl ?q2x2_8 (QAll.free (by decide) rfl rfl ?q2x2_9 (QAll.free (by decide) rfl rfl ?q2x2_10 (QAll.free (by decide) rfl rfl ?q2x2_11 (QAll.held (by decide) rfl rfl ?q2x2_12 (QAll.free (by decide) rfl rfl ?q2x2_13 (QAll.held (by decide) rfl rfl ?q2x2_14 (QAll.free (by decide) rfl rfl ?q2x2_15 (QAll.free (by decide) rfl rfl ?q2x2_16 (QAll.free (by decide) rfl rfl ?q2x2_17 (QAll.free (by decide) rfl rfl ?q2x2_18 (QAll.free (by decide) rfl rfl ?q2x2_19 (QAll.held (by decide) rfl rfl ?q2x2_20 (QAll.free (by decide) rfl rfl ?q2x2_21 (QAll.held (by decide) rfl rfl ?q2x2_22 (QAll.free (by decide) rfl rfl ?q2x2_23 (QAll.free (by decide) rfl rfl ?q2x2_24 (QAll.free (by decide) rfl rfl ?q2x2_25 (QAll.free (by decide) rfl rfl ?q2x2_26 (QAll.free (by decide) rfl rfl ?q2x2_27 (QAll.free (by decide) rfl rfl ?q2x2_28 QAll.nil))))))))))))))))))))))))))))) ?q2x2_k
      case q2x2_0 => (intro _; exact Z.callg rfl rfl (fun _ hS => kn7_spec _ (hG.mono hS)))
      case q2x2_1 => (intro _; exact Z.mv rfl)
      case q2x2_2 => exact Z.on (Z.ldw 2 ty26 rfl rfl (encV_len _))
      case q2x2_3 => (intro _; exact Z.on (Z.callg rfl rfl (fun _ hS => hia _ (hG.mono hS))))
      case q2x2_4 => exact Z.on (Z.ldw 4 ty26 rfl rfl (encV_len _))
      case q2x2_5 => (intro _; exact Z.on (Z.callg rfl rfl (fun _ hS => hiv _ (hG.mono hS))))
      case q2x2_6 => (intro _; exact Z.on (Z.eq (u' := .v (.bool true)) (Z.bs rfl rfl rfl) (by simp)))
      case q2x2_7 => (intro _; exact Z.pick rfl rfl)
      case q2x2_8 => (intro _; exact Z.mv rfl)
      case q2x2_9 => (intro _; exact Z.on (Z.mv rfl))
      case q2x2_10 => (intro _; exact Z.on (Z.not rfl))
      case q2x2_11 => (intro _; exact Z.on (Z.mv rfl))
      case q2x2_12 => exact Z.on (Z.ldw 1 ty26 rfl rfl (encV_len _))
      case q2x2_13 => (intro _; exact Z.on (Z.callg rfl rfl (fun _ hS => hib2 _ (hG.mono hS))))
      case q2x2_14 => exact Z.on (Z.ldw 4 ty26 rfl rfl (encV_len _))
      case q2x2_15 => (intro _; exact Z.on (Z.callg rfl rfl (fun _ hS => hiv _ (hG.mono hS))))
      case q2x2_16 => (intro _; exact Z.on (Z.eq (u' := .v (.bool true)) (Z.bs rfl rfl rfl) (by simp)))
      case q2x2_17 => (intro _; exact Z.on (Z.pick rfl rfl))
      case q2x2_18 => (intro _; exact Z.pick rfl rfl)
      case q2x2_19 => (intro _; exact Z.mv rfl)
      case q2x2_20 => exact Z.on (Z.ldw 1 ty26 rfl rfl (encV_len _))
      case q2x2_21 => (intro _; exact Z.on (Z.callg rfl rfl (fun _ hS => hrb _ (hG.mono hS))))
      case q2x2_22 => exact Z.on (Z.ldw 4 ty26 rfl rfl (encV_len _))
      case q2x2_23 => (intro _; exact Z.on (Z.callg rfl rfl (fun _ hS => hrv _ (hG.mono hS))))
      case q2x2_24 => (intro _; exact Z.on (Z.call rfl rfl (fun H => hsm H)))
      case q2x2_25 => (intro _; exact Z.on (Z.mv rfl))
      case q2x2_26 => (intro _; exact Z.on (Z.eq (u' := .v (.bool true)) (Z.beq Tryz.underlying4 rfl rfl) (by simp)))
      case q2x2_27 => (intro _; exact Z.pick rfl rfl)
      case q2x2_28 => (intro _; exact Z.as rfl)
      refine CH.nil <| ?_
      simp only [app, finL]
      refine UQ.then <| UW.ret <| S.rtR (fun _ => res_tmp rfl rfl) <| ?_
      rfl
end Go.Proofs.YtgmfgmbgmjbdhaaGreatDoor
