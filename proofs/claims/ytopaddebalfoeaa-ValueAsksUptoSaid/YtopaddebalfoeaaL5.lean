/- The law ValueOrder: what it answers. -/
import Derived.Test.YtopaddebalfoeaaP4
import Derived.Test.YtopaddebalfoeaaL3
namespace Go.Proofs.Ytopaddebalfoeaa
open Go Go.RowKit Go.Eng
set_option linter.unusedSimpArgs false
set_option linter.unusedVariables false
set_option maxRecDepth 100000
set_option maxHeartbeats 4000000
def FitN (a : Nat) (x : V) : Prop := x.ks.length ≤ a ∧ x.vs.length ≤ a ∧ ∀ v ∈ x.vs, Fits v
theorem FitN.fits {a : Nat} {x : V} (h : FitN a x) (ha : a ≤ 1000000) : Fits x := by
  obtain ⟨k, n, t, ks, vs⟩ := x
  obtain ⟨h1, h2, h3⟩ := h
  exact .mk _ _ _ _ _ (Nat.le_trans h1 ha) (Nat.le_trans h2 ha) h3
theorem FitN.with {a : Nat} {x : V} (h : FitN a x) (key : ByteArray) {y : V} (hy : Fits y) : FitN (a + 1) (withV x key y) := by
  obtain ⟨h1, h2, h3⟩ := h
  have hl := withV_lens x key y
  have e : objV x = x ∨ objV x = .mk 5 0 ⟨#[]⟩ [] [] := by unfold objV; split; exact .inl rfl; exact .inr rfl
  refine ⟨?_, ?_, fun v hv => ?_⟩
  · rcases e with e | e <;> rw [e] at hl
    · omega
    · have := hl.1; simp only [vks, List.length_nil] at this; omega
  · rcases e with e | e <;> rw [e] at hl
    · omega
    · have := hl.2.1; simp only [vvs, List.length_nil] at this; omega
  · rcases withV_vals hv with h | h
    · rcases e with e | e <;> rw [e] at h
      · exact h3 v h
      · cases h
    · rw [h]; exact hy
theorem fitN_zero : FitN 0 (.mk 5 0 ⟨#[]⟩ [] []) := ⟨Nat.le_refl _, Nat.le_refl _, fun v hv => by cases hv⟩
theorem valueOrder_spec (c : List Int) (hc : Bys c) (d : List Int) (hd : Bys d) (a : Int) (ha0 : 0 ≤ a) (ha1 : a < 256) (b : Int) (hb0 : 0 ≤ b) (hb1 : b < 256) (g : Int) (hg0 : 0 ≤ g) (hg1 : g < 256) (H : Hp) : ACall Try.prog 9 [u8s c, u8s d, .v (.int .u8 a), .v (.int .u8 b), .v (.int .u8 g)] H (IsR H (.v (.bool true))) := by
  have hpart : ∀ H, ACall Try.prog 19 [u8s c, .v (.int .u8 a)] H (IsR H (.agg (encV (partV c a)))) := part_spec c hc a ha0 ha1
  have hpart2 : ∀ H, ACall Try.prog 19 [u8s d, .v (.int .u8 b)] H (IsR H (.agg (encV (partV d b)))) := part_spec d hd b hb0 hb1
  have hgx := partV_good c a ha0
  have hrx := partV_right c a ha0
  have hgy := partV_good d b hb0
  have hry := partV_right d b hb0
  generalize partV c a = x at *
  generalize partV d b = y at *
  have m0 := Int.tmod_nonneg 6 ha0
  have m1 := Int.tmod_lt_of_pos a (by decide : (0 : Int) < 6)
  have m2 := Int.tmod_nonneg 6 hb0
  have m3 := Int.tmod_lt_of_pos b (by decide : (0 : Int) < 6)
  have m4 := Int.tmod_nonneg 6 hg0
  have m5 := Int.tmod_lt_of_pos g (by decide : (0 : Int) < 6)
  have e1 := strs_get ordL (a.tmod 6).toNat (by show _ < 6; omega)
  have e2 := strs_get ordL (b.tmod 6).toNat (by show _ < 6; omega)
  have e3 := strs_get ordL (g.tmod 6).toNat (by show _ < 6; omega)
  have i1 : ordL[(a.tmod 6).toNat]'(by show _ < 6; omega) ∈ ordL := List.getElem_mem _
  have i2 : ordL[(b.tmod 6).toNat]'(by show _ < 6; omega) ∈ ordL := List.getElem_mem _
  have i3 : ordL[(g.tmod 6).toNat]'(by show _ < 6; omega) ∈ ordL := List.getElem_mem _
  generalize ordL[(a.tmod 6).toNat]'(by show _ < 6; omega) = p at *
  generalize ordL[(b.tmod 6).toNat]'(by show _ < 6; omega) = q at *
  generalize ordL[(g.tmod 6).toNat]'(by show _ < 6; omega) = r at *
  by_cases n1 : p = q
  · subst n1
    clear hgx hrx hgy hry m0 m1 m2 m3 m4 m5 i1 i2 i3
    have m0 := Int.tmod_nonneg 6 ha0
    have m2 := Int.tmod_nonneg 6 hb0
    have m4 := Int.tmod_nonneg 6 hg0
    refine UCall (n := 111) (H0 := H) (objs := []) Try.func9 (by kernel_rfl) rfl (by rw [Try.ntmps9]; rfl) .nil <| ?_
    refine Q.rg <| Q.as rfl <| Q.nt <| Q.rg <| S.qu (Z.eq (u' := strs ordL) (Z.bl row24 rfl rfl (lit_ok rfl)) rfl) <| Q.as rfl <| Q.nt <| Q.rg <| Q.mv rfl <| Q.mv rfl <| S.qu (Z.call rfl rfl (fun _ => hpart _)) <| S.dd <| D.al z27 rfl rfl rfl fun p12 => S.s <| D.stw 0 ty27 rfl rfl rfl rfl (by exact encV_cell _) (encV_len _) rfl rfl fun _ => ?_
    refine Q.nt <| Q.rg <| Q.mv rfl <| Q.mv rfl <| S.qu (Z.call rfl rfl (fun _ => hpart2 _)) <| S.dd <| D.al z27 rfl rfl rfl fun p13 => S.s <| D.stw 0 ty27 rfl rfl rfl rfl (by exact encV_cell _) (encV_len _) rfl rfl fun _ => ?_
    refine Q.nt <| Q.rg <| Q.mv rfl <| Q.mv rfl <| Q.bi rfl rfl rfl <| S.qu (Z.ia sl24 rfl rfl (by omega) e1 rfl) <| S.qu (Z.lpc ty9 rfl) <| Q.as rfl <| Q.nt <| Q.rg <| Q.mv rfl <| Q.mv rfl <| Q.bi rfl rfl rfl <| S.qu (Z.ia sl24 rfl rfl (by omega) e2 rfl) <| S.qu (Z.lpc ty9 rfl) <| Q.as rfl <| Q.nt <| Q.rg <| Q.mv rfl <| Q.mv rfl <| Q.bi rfl rfl rfl <| S.qu (Z.ia sl24 rfl rfl (by omega) e3 rfl) <| S.qu (Z.lpc ty9 rfl) <| Q.as rfl <| Q.nt <| S.sq <| Q.rg <| Q.mv rfl <| Q.mv rfl <| S.qu (Z.eq (u' := .v (.bool true)) (Z.bs rfl rfl rfl) (by simp)) <| ?_
    refine Q.mv rfl <| Q.of <| Q.of <| Q.of <| Q.pk rfl rfl <| Q.mv rfl <| Q.of <| Q.of <| Q.of <| Q.pk rfl rfl <| Q.nt <| S.cT rfl rfl <| Q.rg <| S.qu (Z.call rfl rfl (fun _ => known_spec _)) <| Q.as rfl <| Q.nt <| UW.ret <| UQ.passR <| S.rtR (fun _ => res_tmp rfl rfl) <| ?_
    rfl
  by_cases n2 : q = r
  · subst n2
    clear hgx hrx hgy hry i1 i2 i3
    refine UCall (n := 111) (H0 := H) (objs := []) Try.func9 (by kernel_rfl) rfl (by rw [Try.ntmps9]; rfl) .nil <| ?_
    refine Q.rg <| Q.as rfl <| Q.nt <| Q.rg <| S.qu (Z.eq (u' := strs ordL) (Z.bl row24 rfl rfl (lit_ok rfl)) rfl) <| Q.as rfl <| Q.nt <| Q.rg <| Q.mv rfl <| Q.mv rfl <| S.qu (Z.call rfl rfl (fun _ => hpart _)) <| S.dd <| D.al z27 rfl rfl rfl fun p12 => S.s <| D.stw 0 ty27 rfl rfl rfl rfl (by exact encV_cell _) (encV_len _) rfl rfl fun _ => ?_
    refine Q.nt <| Q.rg <| Q.mv rfl <| Q.mv rfl <| S.qu (Z.call rfl rfl (fun _ => hpart2 _)) <| S.dd <| D.al z27 rfl rfl rfl fun p13 => S.s <| D.stw 0 ty27 rfl rfl rfl rfl (by exact encV_cell _) (encV_len _) rfl rfl fun _ => ?_
    refine Q.nt <| Q.rg <| Q.mv rfl <| Q.mv rfl <| Q.bi rfl rfl rfl <| S.qu (Z.ia sl24 rfl rfl (by omega) e1 rfl) <| S.qu (Z.lpc ty9 rfl) <| Q.as rfl <| Q.nt <| Q.rg <| Q.mv rfl <| Q.mv rfl <| Q.bi rfl rfl rfl <| S.qu (Z.ia sl24 rfl rfl (by omega) e2 rfl) <| S.qu (Z.lpc ty9 rfl) <| Q.as rfl <| Q.nt <| Q.rg <| Q.mv rfl <| Q.mv rfl <| Q.bi rfl rfl rfl <| S.qu (Z.ia sl24 rfl rfl (by omega) e3 rfl) <| S.qu (Z.lpc ty9 rfl) <| Q.as rfl <| Q.nt <| S.sq <| Q.rg <| Q.mv rfl <| Q.mv rfl <| S.qu (Z.eq (u' := .v (.bool false)) (Z.bs rfl rfl rfl) (by congr 2; simpa using fun h => n1 (bytes_ext h))) <| ?_
    refine Q.mv rfl <| Q.on (Z.mv rfl) <| Q.on (Z.mv rfl) <| Q.on (Z.eq (u' := .v (.bool true)) (Z.bs rfl rfl rfl) (by simp)) <| ?_
    refine Q.pk rfl rfl <| Q.mv rfl <| Q.of <| Q.of <| Q.of <| Q.pk rfl rfl <| Q.nt <| S.cT rfl rfl <| Q.rg <| S.qu (Z.call rfl rfl (fun _ => known_spec _)) <| Q.as rfl <| Q.nt <| UW.ret <| UQ.passR <| S.rtR (fun _ => res_tmp rfl rfl) <| ?_
    rfl
  by_cases n3 : p = r
  · subst n3
    clear hgx hrx hgy hry i1 i2 i3
    refine UCall (n := 111) (H0 := H) (objs := []) Try.func9 (by kernel_rfl) rfl (by rw [Try.ntmps9]; rfl) .nil <| ?_
    refine Q.rg <| Q.as rfl <| Q.nt <| Q.rg <| S.qu (Z.eq (u' := strs ordL) (Z.bl row24 rfl rfl (lit_ok rfl)) rfl) <| Q.as rfl <| Q.nt <| Q.rg <| Q.mv rfl <| Q.mv rfl <| S.qu (Z.call rfl rfl (fun _ => hpart _)) <| S.dd <| D.al z27 rfl rfl rfl fun p12 => S.s <| D.stw 0 ty27 rfl rfl rfl rfl (by exact encV_cell _) (encV_len _) rfl rfl fun _ => ?_
    refine Q.nt <| Q.rg <| Q.mv rfl <| Q.mv rfl <| S.qu (Z.call rfl rfl (fun _ => hpart2 _)) <| S.dd <| D.al z27 rfl rfl rfl fun p13 => S.s <| D.stw 0 ty27 rfl rfl rfl rfl (by exact encV_cell _) (encV_len _) rfl rfl fun _ => ?_
    refine Q.nt <| Q.rg <| Q.mv rfl <| Q.mv rfl <| Q.bi rfl rfl rfl <| S.qu (Z.ia sl24 rfl rfl (by omega) e1 rfl) <| S.qu (Z.lpc ty9 rfl) <| Q.as rfl <| Q.nt <| Q.rg <| Q.mv rfl <| Q.mv rfl <| Q.bi rfl rfl rfl <| S.qu (Z.ia sl24 rfl rfl (by omega) e2 rfl) <| S.qu (Z.lpc ty9 rfl) <| Q.as rfl <| Q.nt <| Q.rg <| Q.mv rfl <| Q.mv rfl <| Q.bi rfl rfl rfl <| S.qu (Z.ia sl24 rfl rfl (by omega) e3 rfl) <| S.qu (Z.lpc ty9 rfl) <| Q.as rfl <| Q.nt <| S.sq <| Q.rg <| Q.mv rfl <| Q.mv rfl <| S.qu (Z.eq (u' := .v (.bool false)) (Z.bs rfl rfl rfl) (by congr 2; simpa using fun h => n1 (bytes_ext h))) <| ?_
    refine Q.mv rfl <| Q.on (Z.mv rfl) <| Q.on (Z.mv rfl) <| Q.on (Z.eq (u' := .v (.bool false)) (Z.bs rfl rfl rfl) (by congr 2; simpa using fun h => n2 (bytes_ext h))) <| ?_
    refine Q.pk rfl rfl <| Q.mv rfl <| Q.on (Z.mv rfl) <| Q.on (Z.mv rfl) <| Q.on (Z.eq (u' := .v (.bool true)) (Z.bs rfl rfl rfl) (by simp)) <| ?_
    refine Q.pk rfl rfl <| Q.nt <| S.cT rfl rfl <| Q.rg <| S.qu (Z.call rfl rfl (fun _ => known_spec _)) <| Q.as rfl <| Q.nt <| UW.ret <| UQ.passR <| S.rtR (fun _ => res_tmp rfl rfl) <| ?_
    rfl
  have ho := ord_ok p i1 q i2 r i3 n1 n2 n3 x y
  have hr1 := ho.right hrx hry
  have hd1 := ho.deep
  have dx0 := deepV_nonneg x
  have dy0 := deepV_nonneg y
  have dx1 := hgx.2.2
  have dy1 := hgy.2.2
  obtain ⟨dm, hdm⟩ : ∃ dm, (if deepV y > deepV x then deepV y else deepV x) = dm := ⟨_, rfl⟩
  have hdm0 : 0 ≤ dm ∧ dm ≤ 30 := by rw [← hdm]; split <;> omega
  rw [hdm] at hd1
  obtain ⟨ks, vs, f1, f2, f3, -, -⟩ := ho
  have a1 := fitN_zero.with p hgx.1
  have a2 := a1.with q hgy.1
  have a3 := a2.with r hgx.1
  have b1 := fitN_zero.with r hgx.1
  have b2 := b1.with p hgx.1
  have w1 := fun H => with_spec _ (fitN_zero.fits (by decide)) p x hgx.1 H
  have w2 := fun H => with_spec _ (a1.fits (by decide)) q y hgy.1 H
  have w3 := fun H => with_spec _ (a2.fits (by decide)) r x hgx.1 H
  have u1 := fun H => with_spec _ (fitN_zero.fits (by decide)) r x hgx.1 H
  have u2 := fun H => with_spec _ (b1.fits (by decide)) p x hgx.1 H
  have u3 := fun H => with_spec _ (b2.fits (by decide)) q y hgy.1 H
  have hf := a3.fits (by decide)
  unfold oneO at f1 hr1 hd1
  unfold twoO at f2
  simp only [f1] at w3 hf hr1 hd1
  simp only [f2] at u3
  generalize withV (withV (.mk 5 0 ⟨#[]⟩ [] []) p x) q y = c2 at *
  generalize withV (.mk 5 0 ⟨#[]⟩ [] []) p x = c1 at *
  generalize withV (withV (.mk 5 0 ⟨#[]⟩ [] []) r x) p x = d2 at *
  generalize withV (.mk 5 0 ⟨#[]⟩ [] []) r x = d1 at *
  clear f1 f2 a1 a2 a3 b1 b2 i1 i2 i3
  have f3' : (List.map encS ks).length = 3 := by rw [List.length_map]; exact f3
  have hx := hgx.1
  have hy := hgy.1
  clear hgx hgy
  refine UCall (n := 111) (H0 := H) (objs := []) Try.func9 (by kernel_rfl) rfl (by rw [Try.ntmps9]; rfl) .nil <| ?_
  refine Q.rg <| Q.as rfl <| Q.nt <| Q.rg <| S.qu (Z.eq (u' := strs ordL) (Z.bl row24 rfl rfl (lit_ok rfl)) rfl) <| Q.as rfl <| Q.nt <| Q.rg <| Q.mv rfl <| Q.mv rfl <| S.qu (Z.call rfl rfl (fun _ => hpart _)) <| S.dd <| D.al z27 rfl rfl rfl fun p12 => S.s <| D.stw 0 ty27 rfl rfl rfl rfl (by exact encV_cell _) (encV_len _) rfl rfl fun _ => ?_
  refine Q.nt <| Q.rg <| Q.mv rfl <| Q.mv rfl <| S.qu (Z.call rfl rfl (fun _ => hpart2 _)) <| S.dd <| D.al z27 rfl rfl rfl fun p13 => S.s <| D.stw 0 ty27 rfl rfl rfl rfl (by exact encV_cell _) (encV_len _) rfl rfl fun _ => ?_
  refine Q.nt <| Q.rg <| Q.mv rfl <| Q.mv rfl <| Q.bi rfl rfl rfl <| S.qu (Z.ia sl24 rfl rfl (by omega) e1 rfl) <| S.qu (Z.lpc ty9 rfl) <| Q.as rfl <| Q.nt <| Q.rg <| Q.mv rfl <| Q.mv rfl <| Q.bi rfl rfl rfl <| S.qu (Z.ia sl24 rfl rfl (by omega) e2 rfl) <| S.qu (Z.lpc ty9 rfl) <| Q.as rfl <| Q.nt <| Q.rg <| Q.mv rfl <| Q.mv rfl <| Q.bi rfl rfl rfl <| S.qu (Z.ia sl24 rfl rfl (by omega) e3 rfl) <| S.qu (Z.lpc ty9 rfl) <| Q.as rfl <| Q.nt <| S.sq <| Q.rg <| Q.mv rfl <| Q.mv rfl <| S.qu (Z.eq (u' := .v (.bool false)) (Z.bs rfl rfl rfl) (by congr 2; simpa using fun h => n1 (bytes_ext h))) <| ?_
  refine Q.mv rfl <| Q.on (Z.mv rfl) <| Q.on (Z.mv rfl) <| Q.on (Z.eq (u' := .v (.bool false)) (Z.bs rfl rfl rfl) (by congr 2; simpa using fun h => n2 (bytes_ext h))) <| ?_
  refine Q.pk rfl rfl <| Q.mv rfl <| Q.on (Z.mv rfl) <| Q.on (Z.mv rfl) <| Q.on (Z.eq (u' := .v (.bool false)) (Z.bs rfl rfl rfl) (by congr 2; simpa using fun h => n3 (bytes_ext h))) <| ?_
  refine Q.pk rfl rfl <| Q.nt <| S.cF rfl rfl <| UW.skip <| UQ.then <| Q.rg <| S.qu (Z.bd [0] bt27 rfl rfl rfl rfl rfl rfl) <| S.dd <| D.al z27 rfl rfl rfl fun p17 => S.s <| D.st 0 ty27 rfl rfl rfl rfl rfl rfl rfl rfl fun _ => Q.nt <| S.sq <| ?_
  refine' UW.drawk (by kernel_rfl) [0, 2, 1] [0, 0, 0, 7, 0, 0, 63, 0, 0, 511, 0, 2047] [some 57, some 58, some 59, some 60, some 61, some 62, some 63, some 64, some 65, some 66, none, none] [some (57, _), some (58, _), some (59, _), some (60, _), some (61, _), some (62, _), some (63, _), some (64, _), some (65, _), some (66, _), none, none] [10, 11] [] rfl (by decide) (by decide) (QAll.kept (by decide) rfl rfl ?q3x0_0 (QAll.free (by decide) rfl rfl ?q3x0_1 (QAll.kept (by decide) rfl rfl ?q3x0_2 (QAll.free (by decide) rfl rfl ?q3x0_3 (QAll.free (by decide) rfl rfl ?q3x0_4 (QAll.kept (by decide) rfl rfl ?q3x0_5 (QAll.free (by decide) rfl rfl ?q3x0_6 (QAll.free (by decide) rfl rfl ?q3x0_7 (QAll.kept (by decide) rfl rfl ?q3x0_8 (QAll.free (by decide) rfl rfl ?q3x0_9 (QAll.skip (QAll.skip QAll.nil)))))))))))) ?q3x0_k
  case q3x0_0 => (intro _ hK; exact Z.kw 0 hK ty27 rfl rfl rfl)
  case q3x0_1 => (intro _; exact Z.mv rfl)
  case q3x0_2 => (intro _ hK; exact Z.kw 1 hK ty27 rfl rfl (encV_len _))
  case q3x0_3 => (intro _; exact Z.call rfl rfl (fun _ => w1 _))
  case q3x0_4 => (intro _; exact Z.mv rfl)
  case q3x0_5 => (intro _ hK; exact Z.kw 2 hK ty27 rfl rfl (encV_len _))
  case q3x0_6 => (intro _; exact Z.call rfl rfl (fun _ => w2 _))
  case q3x0_7 => (intro _; exact Z.mv rfl)
  case q3x0_8 => (intro _ hK; exact Z.kw 1 hK ty27 rfl rfl (encV_len _))
  case q3x0_9 => (intro _; exact Z.call rfl rfl (fun _ => w3 _))
  refine CH.cons rfl rfl (by decide) ?_ (.c 0 rfl (.c 2 rfl (.c 1 rfl .n)))
  refine D.al z27 rfl rfl rfl fun p18 => ?_
  refine CH.cons0 rfl rfl ?_ (.c 1 rfl (.c 3 rfl (.c 2 rfl .n)))
  refine D.st 0 ty27 rfl rfl rfl rfl rfl rfl rfl rfl fun _ => ?_
  refine CH.nil ?_ (.c 1 rfl (.c 3 rfl (.c 2 rfl .n)))
  simp only [app, finL]
  refine UQ.then <| S.sq <| ?_
  refine' UW.drawk (by kernel_rfl) [1, 3, 2] [0, 0, 0, 7, 0, 0, 63, 0, 0, 511, 0, 2047] [some 67, some 68, some 69, some 70, some 71, some 72, some 73, some 74, some 75, some 76, none, none] [some (67, _), some (68, _), some (69, _), some (70, _), some (71, _), some (72, _), some (73, _), some (74, _), some (75, _), some (76, _), none, none] [10, 11] [] rfl (by decide) (by decide) (QAll.kept (by decide) rfl rfl ?q3x1_0 (QAll.free (by decide) rfl rfl ?q3x1_1 (QAll.kept (by decide) rfl rfl ?q3x1_2 (QAll.free (by decide) rfl rfl ?q3x1_3 (QAll.free (by decide) rfl rfl ?q3x1_4 (QAll.kept (by decide) rfl rfl ?q3x1_5 (QAll.free (by decide) rfl rfl ?q3x1_6 (QAll.free (by decide) rfl rfl ?q3x1_7 (QAll.kept (by decide) rfl rfl ?q3x1_8 (QAll.free (by decide) rfl rfl ?q3x1_9 (QAll.skip (QAll.skip QAll.nil)))))))))))) ?q3x1_k
  case q3x1_0 => (intro _ hK; exact Z.kw 0 hK ty27 rfl rfl rfl)
  case q3x1_1 => (intro _; exact Z.mv rfl)
  case q3x1_2 => (intro _ hK; exact Z.kw 1 hK ty27 rfl rfl (encV_len _))
  case q3x1_3 => (intro _; exact Z.call rfl rfl (fun _ => u1 _))
  case q3x1_4 => (intro _; exact Z.mv rfl)
  case q3x1_5 => (intro _ hK; exact Z.kw 1 hK ty27 rfl rfl (encV_len _))
  case q3x1_6 => (intro _; exact Z.call rfl rfl (fun _ => u2 _))
  case q3x1_7 => (intro _; exact Z.mv rfl)
  case q3x1_8 => (intro _ hK; exact Z.kw 2 hK ty27 rfl rfl (encV_len _))
  case q3x1_9 => (intro _; exact Z.call rfl rfl (fun _ => u3 _))
  refine CH.cons rfl rfl (by decide) ?_ (.c 1 rfl (.c 3 rfl (.c 2 rfl .n)))
  refine D.al z27 rfl rfl rfl fun p19 => ?_
  refine CH.cons0 rfl rfl ?_ (.c 2 rfl (.c 4 rfl (.c 3 rfl .n)))
  refine D.st 0 ty27 rfl rfl rfl rfl rfl rfl rfl rfl fun _ => ?_
  refine CH.nil ?_ (.c 2 rfl (.c 4 rfl (.c 3 rfl .n)))
  simp only [app, finL]
  refine UQ.then <| S.sq <| ?_
  refine' UW.draw' (by kernel_rfl) [0, 1, 3, 3, 15, 31, 63, 127, 255, 511, 1023, 2047, 4095, 8191, 16383, 8191, 65535, 131071, 262143, 524287, 1048575, 2097151, 4194303, 8388607, 16777215, 33554431, 16777215, 134217727, 16777215, 536870911, 1073741823, 2147483647, 4294967295, 8589934591, 17179869183] [some 77, some 78, some 79, some 80, some 81, some 82, some 83, some 84, some 85, some 86, some 87, some 88, some 89, some 90, some 91, some 92, some 93, some 94, some 95, some 96, some 97, some 98, some 99, some 100, some 101, some 102, some 103, some 104, some 105, some 106, some 107, some 108, some 109, some 110, some 10] [some (77, _), some (78, _), some (79, _), some (80, _), some (81, _), some (82, _), some (83, _), some (84, _), some (85, _), some (86, _), some (87, _), some (88, _), some (89, _), some (90, _), some (91, _), some (92, _), some (93, _), some (94, _), some (95, _), some (96, _), some (97, _), some (98, _), some (99, _), some (100, _), some (101, _), some (102, _), some (103, _), some (104, _), some (105, _), some (106, _), some (107, _), some (108, _), some (109, _), some (110, _), some (10, _)] [] [2, 3, 8, 13, 15, 18, 24, 26, 28] rfl (by decide) (by decide) (QAll.free (by decide) rfl rfl ?q3x2_0 (QAll.free (by decide) rfl rfl ?q3x2_1 (QAll.held (by decide) rfl rfl ?q3x2_2 (QAll.held (by decide) rfl rfl ?q3x2_3 (QAll.free (by decide) rfl rfl ?q3x2_4 (QAll.free (by decide) rfl rfl ?q3x2_5 (QAll.free (by decide) rfl rfl ?q3x2_6 (QAll.free (by decide) rfl rfl ?q3x2_7 (QAll.held (by decide) rfl rfl ?q3x2_8 (QAll.free (by decide) rfl rfl ?q3x2_9 (QAll.free (by decide) rfl rfl ?q3x2_10 (QAll.free (by decide) rfl rfl ?q3x2_11 (QAll.free (by decide) rfl rfl ?q3x2_12 (QAll.held (by decide) rfl rfl ?q3x2_13 (QAll.free (by decide) rfl rfl ?q3x2_14 (QAll.held (by decide) rfl rfl ?q3x2_15 (QAll.free (by decide) rfl rfl ?q3x2_16 (QAll.free (by decide) rfl rfl ?q3x2_17 (QAll.held (by decide) rfl rfl ?q3x2_18 (QAll.free (by decide) rfl rfl ?q3x2_19 (QAll.free (by decide) rfl rfl ?q3x2_20 (QAll.free (by decide) rfl rfl ?q3x2_21 (QAll.free (by decide) rfl rfl ?q3x2_22 (QAll.free (by decide) rfl rfl ?q3x2_23 (QAll.held (by decide) rfl rfl ?q3x2_24 (QAll.free (by decide) rfl rfl ?q3x2_25 (QAll.held (by decide) rfl rfl ?q3x2_26 (QAll.free (by decide) rfl rfl ?q3x2_27 (QAll.held (by decide) rfl rfl ?q3x2_28 (QAll.free (by decide) rfl rfl ?q3x2_29 (QAll.free (by decide) rfl rfl ?q3x2_30 (QAll.free (by decide) rfl rfl ?q3x2_31 (QAll.free (by decide) rfl rfl ?q3x2_32 (QAll.free (by decide) rfl rfl ?q3x2_33 (QAll.free (by decide) rfl rfl ?q3x2_34 QAll.nil))))))))))))))))))))))))))))))))))) ?q3x2_k
  case q3x2_0 => (intro _; exact Z.call rfl rfl (fun _ => known_spec _))
  case q3x2_1 => (intro _; exact Z.mv rfl)
  case q3x2_2 => exact Z.on (Z.ldw 1 ty27 rfl rfl rfl)
  case q3x2_3 => exact Z.on (Z.ldw 0 ty27 rfl rfl rfl)
  case q3x2_4 => (intro _; exact Z.on (Z.eq (u' := .v (.bool true)) (Z.call rfl rfl (fun _ => same_spec _ hf (.mk 5 0 ⟨#[]⟩ ks vs) _)) (by rw [same_self _ hf])))
  case q3x2_5 => (intro _; exact Z.pick rfl rfl)
  case q3x2_6 => (intro _; exact Z.mv rfl)
  case q3x2_7 => (intro _; exact Z.on (Z.fa f27_3 rfl))
  case q3x2_8 => exact Z.on (Z.ldc 1 ty24 rfl rfl rfl)
  case q3x2_9 => (intro _; exact Z.on (Z.lns sl24 rfl))
  case q3x2_10 => (intro _; exact Z.on (Z.tT (Z.bi rfl rfl rfl) (decide_eq_true (by omega))))
  case q3x2_11 => (intro _; exact Z.pick rfl rfl)
  case q3x2_12 => (intro _; exact Z.mv rfl)
  case q3x2_13 => exact Z.on (Z.ldw 1 ty27 rfl rfl rfl)
  case q3x2_14 => (intro _; exact Z.on (Z.eq (u' := .v (.bool true)) (Z.call rfl rfl (fun _ => right_spec _ hf _)) (by rw [hr1])))
  case q3x2_15 => exact Z.on (Z.ldw 4 ty27 rfl rfl (encV_len _))
  case q3x2_16 => (intro _; exact Z.on (Z.eq (u' := .v (.bool true)) (Z.call rfl rfl (fun _ => right_spec _ hx _)) (by rw [hrx])))
  case q3x2_17 => (intro _; exact Z.on (Z.mv rfl))
  case q3x2_18 => exact Z.on (Z.ldw 3 ty27 rfl rfl (encV_len _))
  case q3x2_19 => (intro _; exact Z.on (Z.eq (u' := .v (.bool true)) (Z.call rfl rfl (fun _ => right_spec _ hy _)) (by rw [hry])))
  case q3x2_20 => (intro _; exact Z.on (Z.pick rfl rfl))
  case q3x2_21 => (intro _; exact Z.on (Z.eq (u' := .v (.bool true)) (Z.beq Try.underlying4 rfl rfl) (by rfl)))
  case q3x2_22 => (intro _; exact Z.pick rfl rfl)
  case q3x2_23 => (intro _; exact Z.mv rfl)
  case q3x2_24 => exact Z.on (Z.ldw 1 ty27 rfl rfl rfl)
  case q3x2_25 => (intro _; exact Z.on (Z.eq (u' := .v (.int .i64 (1 + dm))) (Z.call rfl rfl (fun _ => deep_spec _ hf (by omega) _)) (by rw [hd1])))
  case q3x2_26 => exact Z.on (Z.ldw 4 ty27 rfl rfl (encV_len _))
  case q3x2_27 => (intro _; exact Z.on (Z.call rfl rfl (fun _ => deep_spec _ hx (by omega) _)))
  case q3x2_28 => exact Z.on (Z.ldw 3 ty27 rfl rfl (encV_len _))
  case q3x2_29 => (intro _; exact Z.on (Z.call rfl rfl (fun _ => deep_spec _ hy (by omega) _)))
  case q3x2_30 => (intro _; exact Z.on (Z.eq (u' := .v (.int .i64 dm)) (Z.max rfl rfl) (by rw [hdm])))
  case q3x2_31 => (intro _; exact Z.on (Z.add rfl rfl (IntWalk.i64_in _ (by omega))))
  case q3x2_32 => (intro _; exact Z.on (Z.tT (Z.bi rfl rfl rfl) (decide_eq_true (by omega))))
  case q3x2_33 => (intro _; exact Z.pick rfl rfl)
  case q3x2_34 => (intro _; exact Z.as rfl)
  refine CH.nil <| ?_
  simp only [app, finL]
  refine UQ.then <| UW.ret <| S.rtR (fun _ => res_tmp rfl rfl) <| ?_
  rfl
end Go.Proofs.Ytopaddebalfoeaa
