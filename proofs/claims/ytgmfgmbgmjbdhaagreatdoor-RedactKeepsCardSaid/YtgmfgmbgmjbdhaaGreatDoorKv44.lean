/- RedactContent: what of a content is not kept changes no name, unless the event is sealed anew. -/
import Derived.Test.YtgmfgmbgmjbdhaaGreatDoorKv41
namespace Go.Proofs.YtgmfgmbgmjbdhaaGreatDoor
open Go Go.RowKit Go.Eng
set_option linter.unusedSimpArgs false
set_option linter.unusedVariables false
set_option maxRecDepth 100000
set_option maxHeartbeats 4000000
def zzB : ByteArray := ⟨#[122, 122]⟩
/-- An event of a content and a kind. -/
def eventV (body : V) (kd : ByteArray) : V := withV (withV zeroV contentB body) typeB (strV kd)
theorem with_zero (key : ByteArray) (y : V) : withV zeroV key y = withV (.mk 5 0 ⟨#[]⟩ [] []) key y := rfl
theorem event_O (body : V) (kd : ByteArray) : O (eventV body kd) := by
  unfold eventV
  rw [with_zero]
  exact (O.empty.with _ _).with _ _
theorem event_ev {body : V} (hb : Fits body) (kd : ByteArray) : Ev (eventV body kd) 2 := by
  unfold eventV
  rw [with_zero]
  exact (ev_empty.with (by decide) hb).with (by decide) (strV_fits _)
theorem event_wt {body : V} {N : Nat} (hb : Wt N body) {kd : ByteArray} (hk : kd.size ≤ 20) : Wt (N + 300) (eventV body kd) := by
  unfold eventV
  have h0 : Wt 30 zeroV := .leaf (by decide) (by decide)
  exact ((h0.with hb (by decide : contentB.size ≤ 7)).with (Wt.str (N := 150) (t := kd) (by omega)) (by decide : typeB.size ≤ 4)).up (by omega)
theorem event_type (body : V) (kd : ByteArray) : getV (eventV body kd) typeB = (strV kd, true) := by
  unfold eventV
  rw [with_zero]
  exact (O.empty.with _ _).get_with _ _
theorem event_content (body : V) (kd : ByteArray) : getV (eventV body kd) contentB = (body, true) := by
  unfold eventV
  rw [with_zero, (O.empty.with _ _).get_other (by decide)]
  exact O.empty.get_with _ _
theorem pick_more {b : V} (h : O b) {g : ByteArray → Bool} {key : ByteArray} (hg : g key = false) (p : V) : pickV (withV b key p) g = pickV b g := by
  refine ((h.with key p).pick g).ext (h.pick g) fun o => ?_
  rw [(h.with key p).get_pick, h.get_pick]
  by_cases ho : o = key
  · subst ho; rw [hg]; rfl
  · rw [h.get_other ho]
/-- More in a content that is not kept: it is redacted the same. -/
theorem content_red {s b p : V} {key : ByteArray} (hs : O s) (hb : O b) (hc : getV s contentB = (b, true)) (hk : keptB (getV s typeB).1.t key = false) : redP (withV s contentB (withV b key p)) = redP s := by
  have hx := hs.with contentB (withV b key p)
  refine hx.red.ext hs.red fun o => ?_
  rw [hx.get_red, hs.get_red, hs.get_with, hs.get_other (by decide : typeB ≠ contentB), hc]
  have h5 : (withV b key p).k = 5 := (hb.with _ _).k
  by_cases ho : o = contentB
  · subst ho
    show (if _ then (if contentB = contentB ∧ (withV b key p).k = 5 then _ else _) else _) = (if _ then (if contentB = contentB ∧ b.k = 5 then _ else _) else _)
    rw [if_pos contentB_field, if_pos contentB_field, if_pos ⟨rfl, h5⟩, if_pos ⟨rfl, hb.k⟩, pick_more hb hk]
  · rw [hs.get_other ho]
    simp only [ho, false_and, if_false]
theorem kinds_zz (k : Int) (h0 : 1 ≤ k) (h1 : k ≤ 4) : keptB (kindB k) zzB = false := by
  have : k = 1 ∨ k = 2 ∨ k = 3 ∨ k = 4 := by omega
  have e1 : keptB (kindB 1) zzB = false := by kernel_rfl
  have h2 : keptB (kindB 2) zzB = false := by kernel_rfl
  have h3 : keptB (kindB 3) zzB = false := by kernel_rfl
  have h4 : keptB (kindB 4) zzB = false := by kernel_rfl
  rcases this with rfl | rfl | rfl | rfl
  · exact e1
  · exact h2
  · exact h3
  · exact h4
theorem bodyN_O (c : List Int) (k : Int) : ∀ j, O (bodyN c k j)
  | 0 => O.empty
  | j + 1 => (bodyN_O c k j).with _ _
theorem body_O (c : List Int) (k : Int) : O (bodyV c k) := bodyN_O c k _
theorem kindB_le (k : Int) : (kindB k).size ≤ 20 := getD_le kindL_le _
theorem content_law (c d : List Int) (k : Int) (hc : Bys c) (hd : Bys d) (hk0 : 0 ≤ k) (hk1 : k ≤ 255) (H : Hp) (hG : Glob H) : ACall Tryz.prog 9 [u8s c, u8s d, .v (.int .u8 k)] H (IsR H (.v (.bool true))) := by
  have hm0 := Int.tmod_nonneg 4 hk0
  have hm1 := Int.tmod_lt_of_pos k (by decide : (0 : Int) < 4)
  obtain ⟨hbe, hbw⟩ := body_good hc k
  have hbo := body_O c k
  have hxf := (partV_good d k hk0).1
  have hxw := part_wt hd k hk0
  have hbody := fun H => body_spec c hc k hk0 (by omega) H
  have hpart := fun H => part_spec d hd k hk0 (by omega) H
  have hkind := fun H => kind_spec (1 + k.tmod 4) (by omega) (by omega) H
  have hzz := kinds_zz (1 + k.tmod 4) (by omega) (by omega)
  have hkl := kindB_le (1 + k.tmod 4)
  generalize bodyV c k = b at *
  generalize partV d k = p at *
  generalize kindB (1 + k.tmod 4) = kd at *
  have hbf := hbe.fits (by decide)
  have hvo := event_O b kd
  have hve := event_ev hbf kd
  have hvf := hve.fits (by decide)
  have hvw := event_wt hbw hkl
  have hvt := event_type b kd
  have hvc := event_content b kd
  have hw1 : ∀ H, ACall Tryz.prog 13 [.agg (encV zeroV), .v (.string contentB), .agg (encV b)] H (IsR H (.agg (encV (withV zeroV contentB b)))) := fun H => withR_spec zeroV (fits_leaf0 _ _ _) (fun s hs => absurd hs List.not_mem_nil) contentB b H
  have he1 : Ev (withV zeroV contentB b) 1 := ev_empty.with (by decide) hbf
  have hw2 : ∀ H, ACall Tryz.prog 13 [.agg (encV (withV zeroV contentB b)), .v (.string typeB), .agg (encV (strV kd))] H (IsR H (.agg (encV (eventV b kd)))) := fun H => withR_spec _ (he1.fits (by decide)) he1.keys typeB (strV kd) H
  generalize withV zeroV contentB b = v1 at *
  generalize eventV b kd = v at *
  have hse : Ev (sealedV v) 3 := hve.with (by decide) (sealV_fits _)
  have hsw := hvw.sealed
  have hso := hvo.sealed
  have hsf := hse.fits (by decide)
  have hst : getV (sealedV v) typeB = (strV kd, true) := (hvo.get_other (by decide) _).trans hvt
  have hsc : getV (sealedV v) contentB = (b, true) := (hvo.get_other (by decide) _).trans hvc
  have hyE : Ev (withV b zzB p) 7 := hbe.with (by decide) hxf
  have hyw := hbw.with hxw (by decide : zzB.size ≤ 2)
  have hxE : Ev (withV (sealedV v) contentB (withV b zzB p)) 4 := hse.with (by decide) (hyE.fits (by decide))
  have hxW := hsw.with hyw (by decide : contentB.size ≤ 7)
  have hxF := hxE.fits (by decide)
  have hxO := hso.with contentB (withV b zzB p)
  have hred : redP (withV (sealedV v) contentB (withV b zzB p)) = redP (sealedV v) := content_red hso hbo hsc (by rw [hst]; exact hzz)
  have hrsp : Pr (redP (sealedV v)) := pr_of (red_fits hsf (by have := hse.le; omega)) ((hsw.red (by decide)).up (by decide))
  have hsv := fun H h => sealed_spec v hvf (pr_bare hvf (hvw.up (by decide))) H h
  have hwy := fun H => withR_spec b hbf hbe.keys zzB p H
  have hwx := fun H => withR_spec (sealedV v) hsf hse.keys contentB (withV b zzB p) H
  have his := fun H h => id_spec (sealedV v) hsf hrsp H h
  have hix : ∀ H, Glob H → ACall Tryz.prog 27 [.agg (encV (withV (sealedV v) contentB (withV b zzB p)))] H (IsR H (.v (.string (idB (sealedV v))))) := fun H h => by
    have := id_spec _ hxF (by rw [hred]; exact hrsp) H h
    unfold idB at this
    rwa [hred] at this
  have hds : ∀ H, Glob H → ACall Tryz.prog 16 [.agg (encV (sealedV v))] H (IsR H (.v (.bool true))) := fun H h => by
    have := hashed_spec (sealedV v) hsf (pr_bare hsf (hsw.up (by decide))) H h
    rwa [seal_hashed hvo] at this
  have hsx := fun H h => sealed_spec _ hxF (pr_bare hxF (hxW.up (by decide))) H h
  have hsxE : Ev (sealedV (withV (sealedV v) contentB (withV b zzB p))) 5 := hxE.with (by decide) (sealV_fits _)
  have hsxf := hsxE.fits (by decide)
  have hdx : ∀ H, Glob H → ACall Tryz.prog 16 [.agg (encV (sealedV (withV (sealedV v) contentB (withV b zzB p))))] H (IsR H (.v (.bool true))) := fun H h => by
    have := hashed_spec _ hsxf (pr_bare hsxf (hxW.sealed.up (by decide))) H h
    rwa [seal_hashed hxO] at this
  have hrs := fun H h => redact_spec (sealedV v) hsf H h
  have hrx : ∀ H, Glob H → ACall Tryz.prog 21 [.agg (encV (withV (sealedV v) contentB (withV b zzB p)))] H (IsR H (.agg (encV (redP (sealedV v))))) := fun H h => hred ▸ redact_spec _ hxF H h
  have hsm : ∀ H, ACall Tryz.prog 18 [.agg (encV (redP (sealedV v))), .agg (encV (redP (sealedV v)))] H (IsR H (.v (.bool true))) := fun H => by
    have := sameR_spec _ hrsp.fits (redP (sealedV v)) H
    rwa [same_self _ hrsp.fits] at this
  clear hred hbe hbw hbo hvo hve hvf hvw hvt hvc he1 hse hsw hso hsf hst hsc hyE hyw hxE hxW hxF hxO hrsp hsxE hsxf hxf hxw hbf
  generalize idB (sealedV v) = i at *
  generalize redP (sealedV v) = r at *
  generalize sealedV (withV (sealedV v) contentB (withV b zzB p)) = sx at *
  generalize withV (sealedV v) contentB (withV b zzB p) = x at *
  generalize withV b zzB p = y at *
  generalize sealedV v = s at *
  refine UCall (n := 58) (H0 := H) (objs := []) Tryz.func9 (by kernel_rfl) rfl (by rw [Tryz.ntmps9]; rfl) .nil <| ?_
  refine Q.rg <| Q.as rfl <| Q.nt <| Q.rg <| Q.mv rfl <| Q.mv rfl <| S.qu (Z.call rfl rfl (fun H => hbody H)) <| S.dd <| D.al z26 rfl rfl rfl fun p7 => S.s <| D.stw 0 ty26 rfl rfl rfl rfl (by exact encV_cell _) (encV_len _) rfl rfl fun _ => ?_
  refine Q.nt <| Q.rg <| Q.mv rfl <| Q.bi rfl rfl rfl <| S.qu (Z.add rfl rfl (IntWalk.u8_in _ (by omega))) <| S.qu (Z.call rfl rfl (fun H => hkind H)) <| Q.as rfl <| Q.nt <| Q.rg <| S.qu (Z.bd [] bt26 rfl rfl rfl rfl rfl rfl) <| S.qu (Z.ldw 0 ty26 rfl rfl (encV_len _)) <| S.qu (Z.call rfl rfl (fun H => hw1 H)) <| Q.mv rfl <| S.qu (Z.call rfl rfl (fun H => strR_spec kd H)) <| S.qu (Z.call rfl rfl (fun H => hw2 H)) <| S.dd <| D.al z26 rfl rfl rfl fun p9 => S.s <| D.stw 0 ty26 rfl rfl rfl rfl (by exact encV_cell _) (encV_len _) rfl rfl fun _ => ?_
  refine Q.nt <| Q.rg <| S.qu (Z.ldw 0 ty26 rfl rfl (encV_len _)) <| S.qu (Z.callg rfl rfl (fun _ hS => hsv _ (hG.mono hS))) <| S.dd <| D.al z26 rfl rfl rfl fun p10 => S.s <| D.stw 0 ty26 rfl rfl rfl rfl (by exact encV_cell _) (encV_len _) rfl rfl fun _ => ?_
  refine Q.nt <| S.sq <| ?_
  refine' UW.drawk (by kernel_rfl) [0, 2] [0, 0, 0, 0, 12, 30, 63, 0, 255] [some 27, some 28, some 29, some 30, some 31, some 32, some 33, none, none] [some (27, _), some (28, _), some (29, _), some (30, _), some (31, _), some (32, _), some (33, _), none, none] [7, 8] [] rfl (by decide) (by decide) (QAll.kept (by decide) rfl rfl ?q0x0_0 (QAll.kept (by decide) rfl rfl ?q0x0_1 (QAll.free (by decide) rfl rfl ?q0x0_2 (QAll.free (by decide) rfl rfl ?q0x0_3 (QAll.free (by decide) rfl rfl ?q0x0_4 (QAll.free (by decide) rfl rfl ?q0x0_5 (QAll.free (by decide) rfl rfl ?q0x0_6 (QAll.skip (QAll.skip QAll.nil))))))))) ?q0x0_k
  case q0x0_0 => (intro _ hK; exact Z.kw 0 hK ty26 rfl rfl (encV_len _))
  case q0x0_1 => (intro _ hK; exact Z.kw 1 hK ty26 rfl rfl (encV_len _))
  case q0x0_2 => (intro _; exact Z.mv rfl)
  case q0x0_3 => (intro _; exact Z.mv rfl)
  case q0x0_4 => (intro _; exact Z.call rfl rfl (fun H => hpart H))
  case q0x0_5 => (intro _; exact Z.call rfl rfl (fun H => hwy H))
  case q0x0_6 => (intro _; exact Z.call rfl rfl (fun H => hwx H))
  refine CH.cons rfl rfl (by decide) ?_ (.c 0 rfl (.c 2 rfl .n))
  refine D.al z26 rfl rfl rfl fun p11 => ?_
  refine CH.cons0 rfl rfl ?_ (.c 1 rfl (.c 3 rfl .n))
  refine D.stw 0 ty26 rfl rfl rfl rfl (by exact encV_cell _) (encV_len _) rfl rfl fun _ => ?_
  refine CH.nil ?_ (.c 1 rfl (.c 3 rfl .n))
  simp only [app, finL]
  refine UQ.then <| S.sq <| ?_
  refine' UW.draw' (by kernel_rfl) [0, 1, 3, 7, 3, 31, 63, 127, 255, 511, 1023, 2047, 4095, 8191, 16383, 32767, 65535, 131071, 262143, 524287, 262143, 2097151, 4194303, 8388607, 16777215] [some 34, some 35, some 36, some 37, some 38, some 39, some 40, some 41, some 42, some 43, some 44, some 45, some 46, some 47, some 48, some 49, some 50, some 51, some 52, some 53, some 54, some 55, some 56, some 57, some 6] [some (34, _), some (35, _), some (36, _), some (37, _), some (38, _), some (39, _), some (40, _), some (41, _), some (42, _), some (43, _), some (44, _), some (45, _), some (46, _), some (47, _), some (48, _), some (49, _), some (50, _), some (51, _), some (52, _), some (53, _), some (54, _), some (55, _), some (56, _), some (57, _), some (6, _)] [] [2, 4, 9, 13, 18, 20] rfl (by decide) (by decide) (QAll.free (by decide) rfl rfl ?q0x1_0 (QAll.free (by decide) rfl rfl ?q0x1_1 (QAll.held (by decide) rfl rfl ?q0x1_2 (QAll.free (by decide) rfl rfl ?q0x1_3 (QAll.held (by decide) rfl rfl ?q0x1_4 (QAll.free (by decide) rfl rfl ?q0x1_5 (QAll.free (by decide) rfl rfl ?q0x1_6 (QAll.free (by decide) rfl rfl ?q0x1_7 (QAll.free (by decide) rfl rfl ?q0x1_8 (QAll.held (by decide) rfl rfl ?q0x1_9 (QAll.free (by decide) rfl rfl ?q0x1_10 (QAll.free (by decide) rfl rfl ?q0x1_11 (QAll.free (by decide) rfl rfl ?q0x1_12 (QAll.held (by decide) rfl rfl ?q0x1_13 (QAll.free (by decide) rfl rfl ?q0x1_14 (QAll.free (by decide) rfl rfl ?q0x1_15 (QAll.free (by decide) rfl rfl ?q0x1_16 (QAll.free (by decide) rfl rfl ?q0x1_17 (QAll.held (by decide) rfl rfl ?q0x1_18 (QAll.free (by decide) rfl rfl ?q0x1_19 (QAll.held (by decide) rfl rfl ?q0x1_20 (QAll.free (by decide) rfl rfl ?q0x1_21 (QAll.free (by decide) rfl rfl ?q0x1_22 (QAll.free (by decide) rfl rfl ?q0x1_23 (QAll.free (by decide) rfl rfl ?q0x1_24 QAll.nil))))))))))))))))))))))))) ?q0x1_k
  case q0x1_0 => (intro _; exact Z.callg rfl rfl (fun _ hS => kn7_spec _ (hG.mono hS)))
  case q0x1_1 => (intro _; exact Z.mv rfl)
  case q0x1_2 => exact Z.on (Z.ldw 0 ty26 rfl rfl (encV_len _))
  case q0x1_3 => (intro _; exact Z.on (Z.callg rfl rfl (fun _ hS => hix _ (hG.mono hS))))
  case q0x1_4 => exact Z.on (Z.ldw 1 ty26 rfl rfl (encV_len _))
  case q0x1_5 => (intro _; exact Z.on (Z.callg rfl rfl (fun _ hS => his _ (hG.mono hS))))
  case q0x1_6 => (intro _; exact Z.on (Z.eq (u' := .v (.bool true)) (Z.bs rfl rfl rfl) (by simp)))
  case q0x1_7 => (intro _; exact Z.pick rfl rfl)
  case q0x1_8 => (intro _; exact Z.mv rfl)
  case q0x1_9 => exact Z.on (Z.ldw 1 ty26 rfl rfl (encV_len _))
  case q0x1_10 => (intro _; exact Z.on (Z.callg rfl rfl (fun _ hS => hds _ (hG.mono hS))))
  case q0x1_11 => (intro _; exact Z.pick rfl rfl)
  case q0x1_12 => (intro _; exact Z.mv rfl)
  case q0x1_13 => exact Z.on (Z.ldw 0 ty26 rfl rfl (encV_len _))
  case q0x1_14 => (intro _; exact Z.on (Z.callg rfl rfl (fun _ hS => hsx _ (hG.mono hS))))
  case q0x1_15 => (intro _; exact Z.on (Z.callg rfl rfl (fun _ hS => hdx _ (hG.mono hS))))
  case q0x1_16 => (intro _; exact Z.pick rfl rfl)
  case q0x1_17 => (intro _; exact Z.mv rfl)
  case q0x1_18 => exact Z.on (Z.ldw 0 ty26 rfl rfl (encV_len _))
  case q0x1_19 => (intro _; exact Z.on (Z.callg rfl rfl (fun _ hS => hrx _ (hG.mono hS))))
  case q0x1_20 => exact Z.on (Z.ldw 1 ty26 rfl rfl (encV_len _))
  case q0x1_21 => (intro _; exact Z.on (Z.callg rfl rfl (fun _ hS => hrs _ (hG.mono hS))))
  case q0x1_22 => (intro _; exact Z.on (Z.call rfl rfl (fun H => hsm H)))
  case q0x1_23 => (intro _; exact Z.pick rfl rfl)
  case q0x1_24 => (intro _; exact Z.as rfl)
  refine CH.nil <| ?_
  simp only [app, finL]
  refine UQ.then <| UW.ret <| S.rtR (fun _ => res_tmp rfl rfl) <| ?_
  rfl
end Go.Proofs.YtgmfgmbgmjbdhaaGreatDoor
