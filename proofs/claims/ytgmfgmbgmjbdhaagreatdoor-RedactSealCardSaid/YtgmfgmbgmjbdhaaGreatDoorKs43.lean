/- RedactSeal: what is sealed has the right hash, whatever is unsigned; with another field, just where all of it has the same hash. -/
import Derived.Test.YtgmfgmbgmjbdhaaGreatDoorKs42
namespace Go.Proofs.YtgmfgmbgmjbdhaaGreatDoor
open Go Go.RowKit Go.Eng
set_option linter.unusedSimpArgs false
set_option linter.unusedVariables false
set_option maxRecDepth 100000
set_option maxHeartbeats 4000000
def otherB : ByteArray := ⟨#[111, 116, 104, 101, 114]⟩
def depthB : ByteArray := ⟨#[100, 101, 112, 116, 104]⟩
def notB : ByteArray := ⟨#[110, 111, 116]⟩
theorem wideN_O (c : List Int) (k : Int) : ∀ j, O (wideN c k j)
  | 0 => O.empty
  | j + 1 => (wideN_O c k j).with _ _
theorem wide_O (c : List Int) (k : Int) : O (wideV c k) := wideN_O c k _
theorem seal_other {v : V} (h : O v) {key : ByteArray} (hk : hashesB ≠ key) (x : V) : hashedV (withV (sealedV v) key x) = ((hashB (withV (sealedV v) key x)).toList == (hashB v).toList) := by
  rw [hashed_of ((h.sealed.get_other hk x).trans (h.get_with _ _))]
  cases h1 : ((hashB v).toList == (hashB (withV (sealedV v) key x)).toList) with
  | true => have := eq_of_beq h1; simp [this]
  | false =>
    cases h2 : ((hashB (withV (sealedV v) key x)).toList == (hashB v).toList) with
    | false => rfl
    | true => have := eq_of_beq h2; rw [this] at h1; simp at h1
theorem seal_unsigned {v : V} (h : O v) (x : V) : hashedV (withV (sealedV v) unsignedB x) = true := by
  rw [seal_other h (by decide) x]
  have : hashB (withV (sealedV v) unsignedB x) = hashB v := ((h.sealed.with _ _).hash_eq h.sealed fun key _ h2 => h.sealed.get_other h2 _).trans h.hash_sealed
  rw [this]; simp
theorem seal_hashed {v : V} (h : O v) : hashedV (sealedV v) = true := by
  have e : getV (sealedV v) hashesB = (sealV (hashB v), true) := h.get_with _ _
  rw [hashed_of e, h.hash_sealed]; simp
theorem seal_twice {v : V} (h : O v) : sealedV (sealedV v) = sealedV v := by
  refine (h.sealed.sealed).ext h.sealed fun key => ?_
  by_cases hk : key = hashesB
  · subst hk
    have e1 : getV (sealedV (sealedV v)) hashesB = (sealV (hashB (sealedV v)), true) := h.sealed.get_with _ _
    have e2 : getV (sealedV v) hashesB = (sealV (hashB v), true) := h.get_with _ _
    rw [e1, e2, h.hash_sealed]
  · exact h.sealed.get_other hk _
theorem seal_law (c d : List Int) (k : Int) (hc : Bys c) (hd : Bys d) (hk0 : 0 ≤ k) (hk1 : k ≤ 255) (H : Hp) (hG : Glob H) : ACall Tryz.prog 3 [u8s c, u8s d, .v (.int .u8 k)] H (IsR H (.v (.bool true))) := by
  obtain ⟨hve, hvw⟩ := wide_good hc k hk0
  have hvo := wide_O c k
  have hxf := (partV_good d k hk0).1
  have hxw := part_wt hd k hk0
  have hwide := fun H => wide_spec c hc k hk0 (by omega) H
  have hpart := fun H => part_spec d hd k hk0 (by omega) H
  generalize wideV c k = v at *
  generalize partV d k = x at *
  have hse : Ev (sealedV v) 19 := hve.with (by decide) (sealV_fits _)
  have hsw : Wt 30000000 (sealedV v) := hvw.sealed.up (by decide)
  have hso := hvo.sealed
  have hvf := hve.fits (by decide)
  have hsf := hse.fits (by decide)
  have hvp := pr_bare hvf (hvw.up (by decide))
  have hsp := pr_bare hsf (hsw.up (by decide))
  have wall : ∀ (key : ByteArray) (y : V), key.size ≤ 20 → Fits y → Wt 100000 y → Fits (withV (sealedV v) key y) ∧ Pr (bareV (withV (sealedV v) key y)) := fun key y h1 h2 h3 => by
    have e := hse.with (key := key) (y := y) (by omega) h2
    have w := hsw.with h3 h1
    exact ⟨e.fits (by decide), pr_bare (e.fits (by decide)) (w.up (by decide))⟩
  obtain ⟨huf, hup⟩ := wall unsignedB x (by decide) hxf hxw
  obtain ⟨hwf, hwp⟩ := wall otherB x (by decide) hxf hxw
  obtain ⟨hyf, hyp⟩ := wall depthB (strV notB) (by decide) (strV_fits _) (.str (by decide))
  have hhv := fun H h => hash_spec v hvf hvp H h
  have hsv := fun H h => sealed_spec v hvf hvp H h
  have hss : ∀ H, Glob H → ACall Tryz.prog 11 [.agg (encV (sealedV v))] H (IsR H (.agg (encV (sealedV v)))) := fun H h => by
    have := sealed_spec (sealedV v) hsf hsp H h
    rwa [seal_twice hvo] at this
  have hhs : ∀ H, Glob H → ACall Tryz.prog 17 [.agg (encV (sealedV v))] H (IsR H (.v (.string (hashB v)))) := fun H h => by
    have := hash_spec (sealedV v) hsf hsp H h
    rwa [hvo.hash_sealed] at this
  have hds : ∀ H, Glob H → ACall Tryz.prog 16 [.agg (encV (sealedV v))] H (IsR H (.v (.bool true))) := fun H h => by
    have := hashed_spec (sealedV v) hsf hsp H h
    rwa [seal_hashed hvo] at this
  have hdu : ∀ H, Glob H → ACall Tryz.prog 16 [.agg (encV (withV (sealedV v) unsignedB x))] H (IsR H (.v (.bool true))) := fun H h => by
    have := hashed_spec _ huf hup H h
    rwa [seal_unsigned hvo] at this
  have hdw : ∀ H, Glob H → ACall Tryz.prog 16 [.agg (encV (withV (sealedV v) otherB x))] H (IsR H (.v (.bool ((hashB (withV (sealedV v) otherB x)).toList == (hashB v).toList)))) := fun H h => by
    have := hashed_spec _ hwf hwp H h
    rwa [seal_other hvo (by decide)] at this
  have hdy : ∀ H, Glob H → ACall Tryz.prog 16 [.agg (encV (withV (sealedV v) depthB (strV notB)))] H (IsR H (.v (.bool ((hashB (withV (sealedV v) depthB (strV notB))).toList == (hashB v).toList)))) := fun H h => by
    have := hashed_spec _ hyf hyp H h
    rwa [seal_other hvo (by decide)] at this
  have hhw := fun H h => hash_spec _ hwf hwp H h
  have hhy := fun H h => hash_spec _ hyf hyp H h
  have hwu := fun H => withR_spec (sealedV v) hsf hse.keys unsignedB x H
  have hww := fun H => withR_spec (sealedV v) hsf hse.keys otherB x H
  have hwy := fun H => withR_spec (sealedV v) hsf hse.keys depthB (strV notB) H
  have hsm : ∀ H, ACall Tryz.prog 18 [.agg (encV (sealedV v)), .agg (encV (sealedV v))] H (IsR H (.v (.bool true))) := fun H => by
    have := sameR_spec (sealedV v) hsf (sealedV v) H
    rwa [same_self _ hsf] at this
  clear wall hve hvw hvo hse hsw hso hvf hvp hsp huf hup hwf hwp hyf hyp
  generalize hashB v = hv at *
  generalize hashB (withV (sealedV v) otherB x) = hw at *
  generalize hashB (withV (sealedV v) depthB (strV notB)) = hy at *
  generalize withV (sealedV v) unsignedB x = u at *
  generalize withV (sealedV v) otherB x = w at *
  generalize withV (sealedV v) depthB (strV notB) = y at *
  generalize sealedV v = s at *
  refine UCall (n := 72) (H0 := H) (objs := []) Tryz.func3 (by kernel_rfl) rfl (by rw [Tryz.ntmps3]; rfl) .nil ?_
  refine S.sq (S.rg ?_)
  refine S.qu (Z.as rfl) ?_
  refine US.nil (UQ.then (S.sq (S.rg ?_)))
  refine S.qu (Z.mv rfl) ?_
  refine S.qu (Z.mv rfl) ?_
  refine S.qu (Z.call rfl rfl (fun H => hwide H)) ?_
  refine S.dd (D.al z26 rfl rfl rfl (fun p7 => ?_))
  refine S.s (D.stw 0 ty26 rfl rfl rfl rfl (by exact encV_cell _) (encV_len _) rfl rfl (fun _ => ?_))
  refine US.nil (UQ.then (S.sq (S.rg ?_)))
  refine S.qu (Z.ldw 0 ty26 rfl rfl (encV_len _)) ?_
  refine S.qu (Z.callg rfl rfl (fun _ hS => hsv _ (hG.mono hS))) ?_
  refine S.dd (D.al z26 rfl rfl rfl (fun p8 => ?_))
  refine S.s (D.stw 0 ty26 rfl rfl rfl rfl (by exact encV_cell _) (encV_len _) rfl rfl (fun _ => ?_))
  refine US.nil (UQ.then (S.sq (S.rg ?_)))
  refine S.qu (Z.mv rfl) ?_
  refine S.qu (Z.mv rfl) ?_
  refine S.qu (Z.call rfl rfl (fun H => hpart H)) ?_
  refine S.dd (D.al z26 rfl rfl rfl (fun p9 => ?_))
  refine S.s (D.stw 0 ty26 rfl rfl rfl rfl (by exact encV_cell _) (encV_len _) rfl rfl (fun _ => ?_))
  refine US.nil (UQ.then (S.sq (S.rg ?_)))
  refine S.qu (Z.ldw 1 ty26 rfl rfl (encV_len _)) ?_
  refine S.qu (Z.ldw 0 ty26 rfl rfl (encV_len _)) ?_
  refine S.qu (Z.call rfl rfl (fun H => hwu H)) ?_
  refine S.dd (D.al z26 rfl rfl rfl (fun p10 => ?_))
  refine S.s (D.stw 0 ty26 rfl rfl rfl rfl (by exact encV_cell _) (encV_len _) rfl rfl (fun _ => ?_))
  refine US.nil (UQ.then (S.sq (S.rg ?_)))
  refine S.qu (Z.ldw 2 ty26 rfl rfl (encV_len _)) ?_
  refine S.qu (Z.ldw 1 ty26 rfl rfl (encV_len _)) ?_
  refine S.qu (Z.call rfl rfl (fun H => hww H)) ?_
  refine S.dd (D.al z26 rfl rfl rfl (fun p11 => ?_))
  refine S.s (D.stw 0 ty26 rfl rfl rfl rfl (by exact encV_cell _) (encV_len _) rfl rfl (fun _ => ?_))
  refine US.nil (UQ.then (S.sq ?_))
  refine' UW.drawk (by kernel_rfl) [3] [0, 0, 3, 0, 15] [some 27, some 28, some 29, none, none] [some (27, _), some (28, _), some (29, _), none, none] [3, 4] [] rfl (by decide) (by decide) (QAll.kept (by decide) rfl rfl ?q0x0_0 (QAll.free (by decide) rfl rfl ?q0x0_1 (QAll.free (by decide) rfl rfl ?q0x0_2 (QAll.skip (QAll.skip QAll.nil))))) ?q0x0_k
  case q0x0_0 => (intro _ hK; exact Z.kw 0 hK ty26 rfl rfl (encV_len _))
  case q0x0_1 => (intro _; exact Z.call rfl rfl (fun H => strR_spec notB H))
  case q0x0_2 => (intro _; exact Z.call rfl rfl (fun H => hwy H))
  refine CH.cons rfl rfl (by decide) ?_ (.c 3 rfl .n)
  refine D.al z26 rfl rfl rfl (fun p12 => ?_)
  refine CH.cons0 rfl rfl ?_ (.c 4 rfl .n)
  refine D.stw 0 ty26 rfl rfl rfl rfl (by exact encV_cell _) (encV_len _) rfl rfl (fun _ => ?_)
  refine CH.nil ?_ (.c 4 rfl .n)
  simp only [app, finL]
  refine UQ.then (S.sq ?_)
  refine' UW.draw' (by kernel_rfl) [0, 1, 3, 7, 15, 31, 63, 127, 255, 511, 1023, 2047, 1023, 8191, 1023, 32767, 65535, 131071, 262143, 524287, 1048575, 2097151, 1048575, 8388607, 1048575, 33554431, 67108863, 134217727, 268435455, 536870911, 1073741823, 2147483647, 1073741823, 8589934591, 17179869183, 34359738367, 68719476735, 137438953471, 68719476735, 549755813887, 1099511627775, 2199023255551, 4398046511103] [some 30, some 31, some 32, some 33, some 34, some 35, some 36, some 37, some 38, some 39, some 40, some 41, some 42, some 43, some 44, some 45, some 46, some 47, some 48, some 49, some 50, some 51, some 52, some 53, some 54, some 55, some 56, some 57, some 58, some 59, some 60, some 61, some 62, some 63, some 64, some 65, some 66, some 67, some 68, some 69, some 70, some 71, some 6] [some (30, _), some (31, _), some (32, _), some (33, _), some (34, _), some (35, _), some (36, _), some (37, _), some (38, _), some (39, _), some (40, _), some (41, _), some (42, _), some (43, _), some (44, _), some (45, _), some (46, _), some (47, _), some (48, _), some (49, _), some (50, _), some (51, _), some (52, _), some (53, _), some (54, _), some (55, _), some (56, _), some (57, _), some (58, _), some (59, _), some (60, _), some (61, _), some (62, _), some (63, _), some (64, _), some (65, _), some (66, _), some (67, _), some (68, _), some (69, _), some (70, _), some (71, _), some (6, _)] [] [2, 6, 10, 12, 14, 20, 22, 24, 30, 32, 36, 38] rfl (by decide) (by decide) (QAll.free (by decide) rfl rfl ?q0x1_0 (QAll.free (by decide) rfl rfl ?q0x1_1 (QAll.held (by decide) rfl rfl ?q0x1_2 (QAll.free (by decide) rfl rfl ?q0x1_3 (QAll.free (by decide) rfl rfl ?q0x1_4 (QAll.free (by decide) rfl rfl ?q0x1_5 (QAll.held (by decide) rfl rfl ?q0x1_6 (QAll.free (by decide) rfl rfl ?q0x1_7 (QAll.free (by decide) rfl rfl ?q0x1_8 (QAll.free (by decide) rfl rfl ?q0x1_9 (QAll.held (by decide) rfl rfl ?q0x1_10 (QAll.free (by decide) rfl rfl ?q0x1_11 (QAll.held (by decide) rfl rfl ?q0x1_12 (QAll.free (by decide) rfl rfl ?q0x1_13 (QAll.held (by decide) rfl rfl ?q0x1_14 (QAll.free (by decide) rfl rfl ?q0x1_15 (QAll.free (by decide) rfl rfl ?q0x1_16 (QAll.free (by decide) rfl rfl ?q0x1_17 (QAll.free (by decide) rfl rfl ?q0x1_18 (QAll.free (by decide) rfl rfl ?q0x1_19 (QAll.held (by decide) rfl rfl ?q0x1_20 (QAll.free (by decide) rfl rfl ?q0x1_21 (QAll.held (by decide) rfl rfl ?q0x1_22 (QAll.free (by decide) rfl rfl ?q0x1_23 (QAll.held (by decide) rfl rfl ?q0x1_24 (QAll.free (by decide) rfl rfl ?q0x1_25 (QAll.free (by decide) rfl rfl ?q0x1_26 (QAll.free (by decide) rfl rfl ?q0x1_27 (QAll.free (by decide) rfl rfl ?q0x1_28 (QAll.free (by decide) rfl rfl ?q0x1_29 (QAll.held (by decide) rfl rfl ?q0x1_30 (QAll.free (by decide) rfl rfl ?q0x1_31 (QAll.held (by decide) rfl rfl ?q0x1_32 (QAll.free (by decide) rfl rfl ?q0x1_33 (QAll.free (by decide) rfl rfl ?q0x1_34 (QAll.free (by decide) rfl rfl ?q0x1_35 (QAll.held (by decide) rfl rfl ?q0x1_36 (QAll.free (by decide) rfl rfl ?q0x1_37 (QAll.held (by decide) rfl rfl ?q0x1_38 (QAll.free (by decide) rfl rfl ?q0x1_39 (QAll.free (by decide) rfl rfl ?q0x1_40 (QAll.free (by decide) rfl rfl ?q0x1_41 (QAll.free (by decide) rfl rfl ?q0x1_42 QAll.nil))))))))))))))))))))))))))))))))))))))))))) ?q0x1_k
  case q0x1_0 => (intro _; exact Z.callg rfl rfl (fun _ hS => kn7_spec _ (hG.mono hS)))
  case q0x1_1 => (intro _; exact Z.mv rfl)
  case q0x1_2 => exact Z.on (Z.ldw 4 ty26 rfl rfl (encV_len _))
  case q0x1_3 => (intro _; exact Z.on (Z.callg rfl rfl (fun _ hS => hds _ (hG.mono hS))))
  case q0x1_4 => (intro _; exact Z.pick rfl rfl)
  case q0x1_5 => (intro _; exact Z.mv rfl)
  case q0x1_6 => exact Z.on (Z.ldw 2 ty26 rfl rfl (encV_len _))
  case q0x1_7 => (intro _; exact Z.on (Z.callg rfl rfl (fun _ hS => hdu _ (hG.mono hS))))
  case q0x1_8 => (intro _; exact Z.pick rfl rfl)
  case q0x1_9 => (intro _; exact Z.mv rfl)
  case q0x1_10 => exact Z.on (Z.ldw 1 ty26 rfl rfl (encV_len _))
  case q0x1_11 => (intro _; exact Z.on (Z.callg rfl rfl (fun _ hS => hdw _ (hG.mono hS))))
  case q0x1_12 => exact Z.on (Z.ldw 1 ty26 rfl rfl (encV_len _))
  case q0x1_13 => (intro _; exact Z.on (Z.callg rfl rfl (fun _ hS => hhw _ (hG.mono hS))))
  case q0x1_14 => exact Z.on (Z.ldw 5 ty26 rfl rfl (encV_len _))
  case q0x1_15 => (intro _; exact Z.on (Z.callg rfl rfl (fun _ hS => hhv _ (hG.mono hS))))
  case q0x1_16 => (intro _; exact Z.on (Z.bs rfl rfl rfl))
  case q0x1_17 => (intro _; exact Z.on (Z.eq (u' := .v (.bool true)) (Z.beq Tryz.underlying4 rfl rfl) (by simp)))
  case q0x1_18 => (intro _; exact Z.pick rfl rfl)
  case q0x1_19 => (intro _; exact Z.mv rfl)
  case q0x1_20 => exact Z.on (Z.ldw 0 ty26 rfl rfl (encV_len _))
  case q0x1_21 => (intro _; exact Z.on (Z.callg rfl rfl (fun _ hS => hdy _ (hG.mono hS))))
  case q0x1_22 => exact Z.on (Z.ldw 0 ty26 rfl rfl (encV_len _))
  case q0x1_23 => (intro _; exact Z.on (Z.callg rfl rfl (fun _ hS => hhy _ (hG.mono hS))))
  case q0x1_24 => exact Z.on (Z.ldw 5 ty26 rfl rfl (encV_len _))
  case q0x1_25 => (intro _; exact Z.on (Z.callg rfl rfl (fun _ hS => hhv _ (hG.mono hS))))
  case q0x1_26 => (intro _; exact Z.on (Z.bs rfl rfl rfl))
  case q0x1_27 => (intro _; exact Z.on (Z.eq (u' := .v (.bool true)) (Z.beq Tryz.underlying4 rfl rfl) (by simp)))
  case q0x1_28 => (intro _; exact Z.pick rfl rfl)
  case q0x1_29 => (intro _; exact Z.mv rfl)
  case q0x1_30 => exact Z.on (Z.ldw 4 ty26 rfl rfl (encV_len _))
  case q0x1_31 => (intro _; exact Z.on (Z.callg rfl rfl (fun _ hS => hss _ (hG.mono hS))))
  case q0x1_32 => exact Z.on (Z.ldw 4 ty26 rfl rfl (encV_len _))
  case q0x1_33 => (intro _; exact Z.on (Z.call rfl rfl (fun H => hsm H)))
  case q0x1_34 => (intro _; exact Z.pick rfl rfl)
  case q0x1_35 => (intro _; exact Z.mv rfl)
  case q0x1_36 => exact Z.on (Z.ldw 4 ty26 rfl rfl (encV_len _))
  case q0x1_37 => (intro _; exact Z.on (Z.callg rfl rfl (fun _ hS => hhs _ (hG.mono hS))))
  case q0x1_38 => exact Z.on (Z.ldw 5 ty26 rfl rfl (encV_len _))
  case q0x1_39 => (intro _; exact Z.on (Z.callg rfl rfl (fun _ hS => hhv _ (hG.mono hS))))
  case q0x1_40 => (intro _; exact Z.on (Z.eq (u' := .v (.bool true)) (Z.bs rfl rfl rfl) (by simp)))
  case q0x1_41 => (intro _; exact Z.pick rfl rfl)
  case q0x1_42 => (intro _; exact Z.as rfl)
  refine CH.nil ?_
  simp only [app, finL]
  refine UQ.then (UW.ret ?_)
  refine S.rtR (fun _ => res_tmp rfl rfl) ?_
  rfl
end Go.Proofs.YtgmfgmbgmjbdhaaGreatDoor
