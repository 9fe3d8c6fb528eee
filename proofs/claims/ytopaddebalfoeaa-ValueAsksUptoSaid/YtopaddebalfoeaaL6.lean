/- The law ValueAsks: what it answers. -/
import Derived.Test.YtopaddebalfoeaaA2
namespace Go.Proofs.Ytopaddebalfoeaa
open Go Go.RowKit Go.Eng
set_option linter.unusedSimpArgs false
set_option linter.unusedVariables false
set_option maxRecDepth 100000
set_option maxHeartbeats 4000000
mutual
def bulkV : V → Nat
  | .mk _ _ t ks vs => 1 + t.size + bulk ks + bulkVs vs
def bulkVs : List V → Nat
  | [] => 0
  | x :: r => bulkV x + bulkVs r
end
theorem leftK_bulk : ∀ (l : List ByteArray) (m : Int), 0 ≤ leftK l m → leftK l m = m - (bulk l : Int)
  | [], m, _ => by simp [leftK, bulk]
  | s :: r, m, h => by
    rw [leftK] at h ⊢
    by_cases hm : 0 ≤ m
    · rw [if_pos hm] at h ⊢
      rw [leftK_bulk r _ h, bulk]; omega
    · rw [if_neg hm] at h; omega
theorem left_bulk (x : V) (hx : Sz x) : ∀ m, 0 ≤ leftV x m → leftV x m = m - (bulkV x : Int) := by
  induction hx with
  | mk k n t ks vs h1 h2 h3 h4 h ih =>
  intro m h0
  rw [leftV] at h0 ⊢
  have key : ∀ (l : List V) (q : Int), (∀ x ∈ l, x ∈ vs) → 0 ≤ leftVs l q → leftVs l q = q - (bulkVs l : Int) := by
    intro l
    induction l with
    | nil => intro q _ _; rw [leftVs, bulkVs]; omega
    | cons x r ih2 =>
      intro q hm h5
      rw [leftVs] at h5 ⊢
      by_cases hq : 0 ≤ q
      · rw [if_pos hq] at h5 ⊢
        have e := ih2 _ (fun y hy => hm y (by simp [hy])) h5
        have e2 := ih x (hm x (by simp)) q (by omega)
        rw [e, e2, bulkVs]; omega
      · rw [if_neg hq] at h5; omega
  have e := key vs _ (fun _ h => h) h0
  have e2 := leftK_bulk ks _ (by omega : 0 ≤ leftK ks (m - (1 + (t.size : Int))))
  rw [e, e2, bulkV]; omega
theorem bulk_mem : ∀ {l : List ByteArray} {s : ByteArray}, s ∈ l → s.size ≤ bulk l
  | a :: r, s, h => by
    rw [bulk]
    rcases List.mem_cons.1 h with h | h
    · subst h; omega
    · have := bulk_mem h; omega
theorem bulkVs_mem : ∀ {l : List V} {x : V}, x ∈ l → bulkV x ≤ bulkVs l
  | a :: r, s, h => by
    rw [bulkVs]
    rcases List.mem_cons.1 h with h | h
    · subst h; omega
    · have := bulkVs_mem h; omega
theorem bulkV_pos (x : V) : 1 ≤ bulkV x := by cases x; rw [bulkV]; omega
theorem bulkVs_len : ∀ l : List V, l.length ≤ bulkVs l
  | [] => Nat.zero_le _
  | x :: r => by have := bulkVs_len r; have := bulkV_pos x; rw [bulkVs, List.length_cons]; omega
theorem bulk_ok (x : V) (hx : Sz x) : bulkV x ≤ 1000 → Fits x ∧ Tx x ∧ deepV x ≤ (bulkV x : Int) ∧ FitN 1000 x := by
  induction hx with
  | mk k n t ks vs h1 h2 h3 h4 h ih =>
  intro hb
  rw [bulkV] at hb
  have e1 := bulk_len ks
  have e2 := bulkVs_len vs
  have hv : ∀ v ∈ vs, bulkV v ≤ bulkVs vs := fun v hv => bulkVs_mem hv
  have hr := fun v hv2 => ih v hv2 (by have := hv v hv2; omega)
  refine ⟨.mk _ _ _ _ _ (by omega) (by omega) fun v hv => (hr v hv).1, .mk _ _ _ _ _ h3 h4 fun v hv => (hr v hv).2.1, ?_, by show ks.length ≤ 1000; omega, by show vs.length ≤ 1000; omega, fun v hv => (hr v hv).1⟩
  have := deep_step (k := k) (n := n) (t := t) (ks := ks) (vs := vs) (d := (bulkVs vs : Int)) (by omega) (fun v hv2 => by have a := (hr v hv2).2.2.1; have b := hv v hv2; omega)
  rw [bulkV]; omega
theorem weight_bd (x : V) (hx : Sz x) : 0 ≤ weightV x ∧ weightV x ≤ 1001 := by
  have := leftV_bd x hx 1000 (by decide) (by decide)
  unfold weightV; split <;> omega
theorem weight_bulk (x : V) (hx : Sz x) (h : weightV x ≤ 250) : bulkV x ≤ 250 := by
  unfold weightV at h
  split at h
  · omega
  · have := left_bulk x hx 1000 (by omega)
    omega
def asksL : List ByteArray := [⟨#[97]⟩, ⟨#[98]⟩, ⟨#[117, 115, 101, 114, 115]⟩, ⟨#[122, 122]⟩, ⟨#[]⟩]
theorem valueAsks_spec (a b : V) (ha : Sz a) (hb : Sz b) (key : ByteArray) (n : Int) (l : List ByteArray) (hl : bulk l ≤ 4000000) (c : List Int) (hc : Bys c) (d : List Int) (hd : Bys d) (k : Int) (hk0 : 0 ≤ k) (hk1 : k < 256) (H : Hp) : ACall Try.prog 10 [.agg (encV a), .agg (encV b), .v (.string key), .v (.int .i64 n), strs l, u8s c, u8s d, .v (.int .u8 k)] H (IsR H (.v (.bool true))) := by
  have hwa := fun H => weight_spec a ha H
  have hwb := fun H => weight_spec b hb H
  have hwa1 := weight_bd a ha
  have hwb1 := weight_bd b hb
  have hma := fun H => many_spec l hl H
  by_cases h1 : weightV a + weightV b > 250
  · generalize weightV a = wa at *
    generalize weightV b = wb at *
    refine UCall (n := 115) (H0 := H) (objs := []) Try.func10 (by kernel_rfl) rfl (by rw [Try.ntmps10]; rfl) .nil <| ?_
    refine Q.rg <| S.dd <| D.box rfl rfl (by exact encV_cell _) fun p8 => ?_
    refine S.dd <| D.box rfl rfl (by exact encV_cell _) fun p9 => ?_
    refine Q.as rfl <| Q.nt <| S.sq <| S.sq <| ?_
    refine' UW.draw' (by kernel_rfl) [0, 1, 0, 7, 15, 31, 63, 127, 255, 511, 1023, 2047, 4095, 8191, 16383, 32767, 65535, 131071, 262143] [some 21, some 22, some 23, some 24, some 25, some 26, some 27, some 28, some 29, some 30, some 31, some 32, some 33, some 34, some 35, some 36, some 37, some 38, some 39] [some (21, _), some (22, _), some (23, _), some (24, _), some (25, _), some (26, _), some (27, _), some (28, _), some (29, _), some (30, _), some (31, _), some (32, _), some (33, _), some (34, _), some (35, _), some (36, _), some (37, _), some (38, _), some (39, _)] [] [0, 2] rfl (by decide) (by decide) (QAll.held (by decide) rfl rfl ?q0x0_0 (QAll.free (by decide) rfl rfl ?q0x0_1 (QAll.held (by decide) rfl rfl ?q0x0_2 (QAll.free (by decide) rfl rfl ?q0x0_3 (QAll.free (by decide) rfl rfl ?q0x0_4 (QAll.free (by decide) rfl rfl ?q0x0_5 (QAll.free (by decide) rfl rfl ?q0x0_6 (QAll.free (by decide) rfl rfl ?q0x0_7 (QAll.free (by decide) rfl rfl ?q0x0_8 (QAll.free (by decide) rfl rfl ?q0x0_9 (QAll.free (by decide) rfl rfl ?q0x0_10 (QAll.free (by decide) rfl rfl ?q0x0_11 (QAll.free (by decide) rfl rfl ?q0x0_12 (QAll.free (by decide) rfl rfl ?q0x0_13 (QAll.free (by decide) rfl rfl ?q0x0_14 (QAll.free (by decide) rfl rfl ?q0x0_15 (QAll.free (by decide) rfl rfl ?q0x0_16 (QAll.free (by decide) rfl rfl ?q0x0_17 (QAll.free (by decide) rfl rfl ?q0x0_18 QAll.nil))))))))))))))))))) ?q0x0_k
    case q0x0_0 => exact Z.ldw 1 ty27 rfl rfl (encV_len _)
    case q0x0_1 => (intro _; exact Z.call rfl rfl hwa)
    case q0x0_2 => exact Z.ldw 0 ty27 rfl rfl (encV_len _)
    case q0x0_3 => (intro _; exact Z.call rfl rfl hwb)
    case q0x0_4 => (intro _; exact Z.add rfl rfl (IntWalk.i64_in _ (by omega)))
    case q0x0_5 => (intro _; exact Z.tT (Z.bi rfl rfl rfl) (decide_eq_true (by omega)))
    case q0x0_6 => (intro _; exact Z.mv rfl)
    case q0x0_7 => (intro _; exact Z.of)
    case q0x0_8 => (intro _; exact Z.of)
    case q0x0_9 => (intro _; exact Z.of)
    case q0x0_10 => (intro _; exact Z.pick rfl rfl)
    case q0x0_11 => (intro _; exact Z.mv rfl)
    case q0x0_12 => (intro _; exact Z.of)
    case q0x0_13 => (intro _; exact Z.of)
    case q0x0_14 => (intro _; exact Z.pick rfl rfl)
    case q0x0_15 => (intro _; exact Z.mv rfl)
    case q0x0_16 => (intro _; exact Z.of)
    case q0x0_17 => (intro _; exact Z.of)
    case q0x0_18 => (intro _; exact Z.pick rfl rfl)
    refine CH.nil <| ?_
    simp only [app, finL]
    refine UQ.then <| S.cT rfl rfl <| Q.rg <| S.qu (Z.call rfl rfl (fun _ => known_spec _)) <| Q.as rfl <| Q.nt <| UW.ret <| UQ.passR <| S.rtR (fun _ => res_tmp rfl rfl) <| ?_
    rfl
  have hba := weight_bulk a ha (by omega)
  have hbb := weight_bulk b hb (by omega)
  have hoa := bulk_ok a ha (by omega)
  have hob := bulk_ok b hb (by omega)
  generalize weightV a = wa at *
  generalize weightV b = wb at *
  by_cases h2 : (key.size : Int) > 50
  · clear hoa hob
    refine UCall (n := 115) (H0 := H) (objs := []) Try.func10 (by kernel_rfl) rfl (by rw [Try.ntmps10]; rfl) .nil <| ?_
    refine Q.rg <| S.dd <| D.box rfl rfl (by exact encV_cell _) fun p8 => ?_
    refine S.dd <| D.box rfl rfl (by exact encV_cell _) fun p9 => ?_
    refine Q.as rfl <| Q.nt <| S.sq <| S.sq <| ?_
    refine' UW.draw' (by kernel_rfl) [0, 1, 0, 7, 15, 31, 63, 127, 255, 511, 1023, 2047, 4095, 8191, 16383, 32767, 65535, 131071, 262143] [some 21, some 22, some 23, some 24, some 25, some 26, some 27, some 28, some 29, some 30, some 31, some 32, some 33, some 34, some 35, some 36, some 37, some 38, some 39] [some (21, _), some (22, _), some (23, _), some (24, _), some (25, _), some (26, _), some (27, _), some (28, _), some (29, _), some (30, _), some (31, _), some (32, _), some (33, _), some (34, _), some (35, _), some (36, _), some (37, _), some (38, _), some (39, _)] [] [0, 2] rfl (by decide) (by decide) (QAll.held (by decide) rfl rfl ?q1x0_0 (QAll.free (by decide) rfl rfl ?q1x0_1 (QAll.held (by decide) rfl rfl ?q1x0_2 (QAll.free (by decide) rfl rfl ?q1x0_3 (QAll.free (by decide) rfl rfl ?q1x0_4 (QAll.free (by decide) rfl rfl ?q1x0_5 (QAll.free (by decide) rfl rfl ?q1x0_6 (QAll.free (by decide) rfl rfl ?q1x0_7 (QAll.free (by decide) rfl rfl ?q1x0_8 (QAll.free (by decide) rfl rfl ?q1x0_9 (QAll.free (by decide) rfl rfl ?q1x0_10 (QAll.free (by decide) rfl rfl ?q1x0_11 (QAll.free (by decide) rfl rfl ?q1x0_12 (QAll.free (by decide) rfl rfl ?q1x0_13 (QAll.free (by decide) rfl rfl ?q1x0_14 (QAll.free (by decide) rfl rfl ?q1x0_15 (QAll.free (by decide) rfl rfl ?q1x0_16 (QAll.free (by decide) rfl rfl ?q1x0_17 (QAll.free (by decide) rfl rfl ?q1x0_18 QAll.nil))))))))))))))))))) ?q1x0_k
    case q1x0_0 => exact Z.ldw 1 ty27 rfl rfl (encV_len _)
    case q1x0_1 => (intro _; exact Z.call rfl rfl hwa)
    case q1x0_2 => exact Z.ldw 0 ty27 rfl rfl (encV_len _)
    case q1x0_3 => (intro _; exact Z.call rfl rfl hwb)
    case q1x0_4 => (intro _; exact Z.add rfl rfl (IntWalk.i64_in _ (by omega)))
    case q1x0_5 => (intro _; exact Z.tF (Z.bi rfl rfl rfl) (decide_eq_false (by omega)))
    case q1x0_6 => (intro _; exact Z.mv rfl)
    case q1x0_7 => (intro _; exact Z.on (Z.mv rfl))
    case q1x0_8 => (intro _; exact Z.on (Z.lnt Try.underlying9 rfl))
    case q1x0_9 => (intro _; exact Z.on (Z.tT (Z.bi rfl rfl rfl) (decide_eq_true (by omega))))
    case q1x0_10 => (intro _; exact Z.pick rfl rfl)
    case q1x0_11 => (intro _; exact Z.mv rfl)
    case q1x0_12 => (intro _; exact Z.of)
    case q1x0_13 => (intro _; exact Z.of)
    case q1x0_14 => (intro _; exact Z.pick rfl rfl)
    case q1x0_15 => (intro _; exact Z.mv rfl)
    case q1x0_16 => (intro _; exact Z.of)
    case q1x0_17 => (intro _; exact Z.of)
    case q1x0_18 => (intro _; exact Z.pick rfl rfl)
    refine CH.nil <| ?_
    simp only [app, finL]
    refine UQ.then <| S.cT rfl rfl <| Q.rg <| S.qu (Z.call rfl rfl (fun _ => known_spec _)) <| Q.as rfl <| Q.nt <| UW.ret <| UQ.passR <| S.rtR (fun _ => res_tmp rfl rfl) <| ?_
    rfl
  by_cases h3 : (bulk l : Int) > 200
  · clear hoa hob
    refine UCall (n := 115) (H0 := H) (objs := []) Try.func10 (by kernel_rfl) rfl (by rw [Try.ntmps10]; rfl) .nil <| ?_
    refine Q.rg <| S.dd <| D.box rfl rfl (by exact encV_cell _) fun p8 => ?_
    refine S.dd <| D.box rfl rfl (by exact encV_cell _) fun p9 => ?_
    refine Q.as rfl <| Q.nt <| S.sq <| S.sq <| ?_
    refine' UW.draw' (by kernel_rfl) [0, 1, 0, 7, 15, 31, 63, 127, 255, 511, 1023, 2047, 4095, 8191, 16383, 32767, 65535, 131071, 262143] [some 21, some 22, some 23, some 24, some 25, some 26, some 27, some 28, some 29, some 30, some 31, some 32, some 33, some 34, some 35, some 36, some 37, some 38, some 39] [some (21, _), some (22, _), some (23, _), some (24, _), some (25, _), some (26, _), some (27, _), some (28, _), some (29, _), some (30, _), some (31, _), some (32, _), some (33, _), some (34, _), some (35, _), some (36, _), some (37, _), some (38, _), some (39, _)] [] [0, 2] rfl (by decide) (by decide) (QAll.held (by decide) rfl rfl ?q2x0_0 (QAll.free (by decide) rfl rfl ?q2x0_1 (QAll.held (by decide) rfl rfl ?q2x0_2 (QAll.free (by decide) rfl rfl ?q2x0_3 (QAll.free (by decide) rfl rfl ?q2x0_4 (QAll.free (by decide) rfl rfl ?q2x0_5 (QAll.free (by decide) rfl rfl ?q2x0_6 (QAll.free (by decide) rfl rfl ?q2x0_7 (QAll.free (by decide) rfl rfl ?q2x0_8 (QAll.free (by decide) rfl rfl ?q2x0_9 (QAll.free (by decide) rfl rfl ?q2x0_10 (QAll.free (by decide) rfl rfl ?q2x0_11 (QAll.free (by decide) rfl rfl ?q2x0_12 (QAll.free (by decide) rfl rfl ?q2x0_13 (QAll.free (by decide) rfl rfl ?q2x0_14 (QAll.free (by decide) rfl rfl ?q2x0_15 (QAll.free (by decide) rfl rfl ?q2x0_16 (QAll.free (by decide) rfl rfl ?q2x0_17 (QAll.free (by decide) rfl rfl ?q2x0_18 QAll.nil))))))))))))))))))) ?q2x0_k
    case q2x0_0 => exact Z.ldw 1 ty27 rfl rfl (encV_len _)
    case q2x0_1 => (intro _; exact Z.call rfl rfl hwa)
    case q2x0_2 => exact Z.ldw 0 ty27 rfl rfl (encV_len _)
    case q2x0_3 => (intro _; exact Z.call rfl rfl hwb)
    case q2x0_4 => (intro _; exact Z.add rfl rfl (IntWalk.i64_in _ (by omega)))
    case q2x0_5 => (intro _; exact Z.tF (Z.bi rfl rfl rfl) (decide_eq_false (by omega)))
    case q2x0_6 => (intro _; exact Z.mv rfl)
    case q2x0_7 => (intro _; exact Z.on (Z.mv rfl))
    case q2x0_8 => (intro _; exact Z.on (Z.lnt Try.underlying9 rfl))
    case q2x0_9 => (intro _; exact Z.on (Z.tF (Z.bi rfl rfl rfl) (decide_eq_false (by omega))))
    case q2x0_10 => (intro _; exact Z.pick rfl rfl)
    case q2x0_11 => (intro _; exact Z.mv rfl)
    case q2x0_12 => (intro _; exact Z.on (Z.mv rfl))
    case q2x0_13 => (intro _; exact Z.on (Z.tT (Z.call rfl rfl hma) (decide_eq_true (by omega))))
    case q2x0_14 => (intro _; exact Z.pick rfl rfl)
    case q2x0_15 => (intro _; exact Z.mv rfl)
    case q2x0_16 => (intro _; exact Z.of)
    case q2x0_17 => (intro _; exact Z.of)
    case q2x0_18 => (intro _; exact Z.pick rfl rfl)
    refine CH.nil <| ?_
    simp only [app, finL]
    refine UQ.then <| S.cT rfl rfl <| Q.rg <| S.qu (Z.call rfl rfl (fun _ => known_spec _)) <| Q.as rfl <| Q.nt <| UW.ret <| UQ.passR <| S.rtR (fun _ => res_tmp rfl rfl) <| ?_
    rfl
  have hll : l.length ≤ 1000000 := by have := bulk_len l; omega
  have hpart : ∀ H, ACall Try.prog 19 [u8s c, .v (.int .u8 k)] H (IsR H (.agg (encV (partV c k)))) := part_spec c hc k hk0 hk1
  have hpart2 : ∀ H, ACall Try.prog 19 [u8s d, .v (.int .u8 k)] H (IsR H (.agg (encV (partV d k)))) := part_spec d hd k hk0 hk1
  have hgx := partV_good c k hk0
  have hsx := partV_small c k hk0
  have hgy := partV_good d k hk0
  generalize partV c k = x at *
  generalize partV d k = y at *
  have hnx : FitN 1000 x := ⟨Nat.le_trans hsx.1 (by decide), Nat.le_trans hsx.2.1 (by decide), hsx.2.2⟩
  have m0 := Int.tmod_nonneg 5 hk0
  have m1 := Int.tmod_lt_of_pos k (by decide : (0 : Int) < 5)
  have e1 := strs_get asksL (k.tmod 5).toNat (by show _ < 5; omega)
  generalize asksL[(k.tmod 5).toNat]'(by show _ < 5; omega) = kk at *
  have s1 : ∀ H, ACall Try.prog 27 [.agg (encV (strV key)), .agg (encV (strV key))] H (IsR H (.v (.bool true))) := fun H => by have hf : Fits (strV key) := .mk _ _ _ _ _ (by decide) (by decide) (by simp); have := sameR_spec _ hf (strV key) H; rwa [same_self _ hf] at this
  have s2 : ∀ H, ACall Try.prog 27 [.agg (encV (numV n)), .agg (encV (numV n))] H (IsR H (.v (.bool true))) := fun H => by have hf : Fits (numV n) := .mk _ _ _ _ _ (by decide) (by decide) (by simp); have := sameR_spec _ hf (numV n) H; rwa [same_self _ hf] at this
  have s3 : ∀ H, ACall Try.prog 27 [.agg (encV (textsV l)), .agg (encV (textsV l))] H (IsR H (.v (.bool true))) := fun H => by have hf := fits_texts l hll; have := sameR_spec _ hf (textsV l) H; rwa [same_self _ hf] at this
  have t1 := fun H => texts_spec l hll H
  have t2 := fun H => textsR_spec l hll H
  have q1 := fun H => asks_spec a b key hoa.2.2.2 hoa.2.1 (by have := hoa.2.2.1; omega) hob.1 H
  have q2 := fun H => asks_spec x y kk hnx hgx.2.1 (by have := hgx.2.2; omega) hgy.1 H
  have q3 := fun H => asks_spec x a key hnx hgx.2.1 (by have := hgx.2.2; omega) hoa.1 H
  have q4 := fun H => asks_spec b x kk hob.2.2.2 hob.2.1 (by have := hob.2.2.1; omega) hgx.1 H
  have r1 := fun H => sameLaw_spec a hoa.1 b H
  have r2 := fun H => sameLaw_spec x hgx.1 y H
  have r3 := fun H => sameLaw_spec x hgx.1 x H
  have u1 := fun H => str_spec key H
  have u2 := fun H => strR_spec key H
  have u3 := fun H => num_spec n H
  have u4 := fun H => numR_spec n H
  generalize strV key = sk at *
  generalize numV n = nn at *
  generalize textsV l = tl at *
  clear hoa hob hgx hsx hgy hnx
  refine UCall (n := 115) (H0 := H) (objs := []) Try.func10 (by kernel_rfl) rfl (by rw [Try.ntmps10]; rfl) .nil <| ?_
  refine Q.rg <| S.dd <| D.box rfl rfl (by exact encV_cell _) fun p8 => ?_
  refine S.dd <| D.box rfl rfl (by exact encV_cell _) fun p9 => ?_
  refine Q.as rfl <| Q.nt <| S.sq <| S.sq <| ?_
  refine' UW.draw' (by kernel_rfl) [0, 1, 0, 7, 15, 31, 63, 127, 255, 511, 1023, 2047, 4095, 8191, 16383, 32767, 65535, 131071, 262143] [some 21, some 22, some 23, some 24, some 25, some 26, some 27, some 28, some 29, some 30, some 31, some 32, some 33, some 34, some 35, some 36, some 37, some 38, some 39] [some (21, _), some (22, _), some (23, _), some (24, _), some (25, _), some (26, _), some (27, _), some (28, _), some (29, _), some (30, _), some (31, _), some (32, _), some (33, _), some (34, _), some (35, _), some (36, _), some (37, _), some (38, _), some (39, _)] [] [0, 2] rfl (by decide) (by decide) (QAll.held (by decide) rfl rfl ?q3x0_0 (QAll.free (by decide) rfl rfl ?q3x0_1 (QAll.held (by decide) rfl rfl ?q3x0_2 (QAll.free (by decide) rfl rfl ?q3x0_3 (QAll.free (by decide) rfl rfl ?q3x0_4 (QAll.free (by decide) rfl rfl ?q3x0_5 (QAll.free (by decide) rfl rfl ?q3x0_6 (QAll.free (by decide) rfl rfl ?q3x0_7 (QAll.free (by decide) rfl rfl ?q3x0_8 (QAll.free (by decide) rfl rfl ?q3x0_9 (QAll.free (by decide) rfl rfl ?q3x0_10 (QAll.free (by decide) rfl rfl ?q3x0_11 (QAll.free (by decide) rfl rfl ?q3x0_12 (QAll.free (by decide) rfl rfl ?q3x0_13 (QAll.free (by decide) rfl rfl ?q3x0_14 (QAll.free (by decide) rfl rfl ?q3x0_15 (QAll.free (by decide) rfl rfl ?q3x0_16 (QAll.free (by decide) rfl rfl ?q3x0_17 (QAll.free (by decide) rfl rfl ?q3x0_18 QAll.nil))))))))))))))))))) ?q3x0_k
  case q3x0_0 => exact Z.ldw 1 ty27 rfl rfl (encV_len _)
  case q3x0_1 => (intro _; exact Z.call rfl rfl hwa)
  case q3x0_2 => exact Z.ldw 0 ty27 rfl rfl (encV_len _)
  case q3x0_3 => (intro _; exact Z.call rfl rfl hwb)
  case q3x0_4 => (intro _; exact Z.add rfl rfl (IntWalk.i64_in _ (by omega)))
  case q3x0_5 => (intro _; exact Z.tF (Z.bi rfl rfl rfl) (decide_eq_false (by omega)))
  case q3x0_6 => (intro _; exact Z.mv rfl)
  case q3x0_7 => (intro _; exact Z.on (Z.mv rfl))
  case q3x0_8 => (intro _; exact Z.on (Z.lnt Try.underlying9 rfl))
  case q3x0_9 => (intro _; exact Z.on (Z.tF (Z.bi rfl rfl rfl) (decide_eq_false (by omega))))
  case q3x0_10 => (intro _; exact Z.pick rfl rfl)
  case q3x0_11 => (intro _; exact Z.mv rfl)
  case q3x0_12 => (intro _; exact Z.on (Z.mv rfl))
  case q3x0_13 => (intro _; exact Z.on (Z.tF (Z.call rfl rfl hma) (decide_eq_false (by omega))))
  case q3x0_14 => (intro _; exact Z.pick rfl rfl)
  case q3x0_15 => (intro _; exact Z.mv rfl)
  case q3x0_16 => (intro _; exact Z.on (Z.call rfl rfl (fun _ => known_spec _)))
  case q3x0_17 => (intro _; exact Z.on (Z.not rfl))
  case q3x0_18 => (intro _; exact Z.pick rfl rfl)
  refine CH.nil <| ?_
  simp only [app, finL]
  refine UQ.then <| S.cF rfl rfl <| UW.skip <| UQ.then <| Q.rg <| Q.mv rfl <| Q.mv rfl <| S.qu (Z.call rfl rfl (fun _ => hpart _)) <| S.dd <| D.al z27 rfl rfl rfl fun p17 => S.s <| D.stw 0 ty27 rfl rfl rfl rfl (by exact encV_cell _) (encV_len _) rfl rfl fun _ => ?_
  refine Q.nt <| Q.rg <| Q.mv rfl <| Q.mv rfl <| S.qu (Z.call rfl rfl (fun _ => hpart2 _)) <| S.dd <| D.al z27 rfl rfl rfl fun p18 => S.s <| D.stw 0 ty27 rfl rfl rfl rfl (by exact encV_cell _) (encV_len _) rfl rfl fun _ => ?_
  refine Q.nt <| Q.rg <| S.qu (Z.eq (u' := strs asksL) (Z.bl row24 rfl rfl (lit_ok rfl)) rfl) <| Q.as rfl <| Q.nt <| Q.rg <| Q.mv rfl <| S.qu (Z.call rfl rfl u1) <| Q.mv rfl <| S.qu (Z.call rfl rfl u2) <| S.qu (Z.call rfl rfl s1) <| Q.mv rfl <| Q.on (Z.mv rfl) <| Q.on (Z.call rfl rfl u3) <| Q.on (Z.mv rfl) <| Q.on (Z.call rfl rfl u4) <| Q.on (Z.call rfl rfl s2) <| Q.pk rfl rfl <| Q.mv rfl <| Q.on (Z.mv rfl) <| Q.on (Z.call rfl rfl t1) <| Q.on (Z.mv rfl) <| Q.on (Z.call rfl rfl t2) <| Q.on (Z.call rfl rfl s3) <| Q.pk rfl rfl <| Q.as rfl <| Q.nt <| S.sq <| ?_
  refine' UW.draw' (by kernel_rfl) [0, 1, 3, 3, 3, 31, 63, 127, 255, 255, 255, 255, 2303, 7423, 15615, 32767, 65535, 131071, 262143, 262143, 262143, 2097151, 4194303, 8388607, 16777215, 16777215, 16777215, 16777215, 150994943, 486539263, 1023410175, 2147483647, 4294967295, 8589934591, 17179869183, 17179869183, 68719476735, 137438953471, 274877906943, 549755813887, 549755813887, 2199023255551, 4398046511103, 8796093022207, 17592186044415, 17592186044415, 70368744177663, 140737488355327, 281474976710655] [some 67, some 68, some 69, some 70, some 71, some 72, some 73, some 74, some 75, some 76, some 77, some 78, some 79, some 80, some 81, some 82, some 83, some 84, some 85, some 86, some 87, some 88, some 89, some 90, some 91, some 92, some 93, some 94, some 95, some 96, some 97, some 98, some 99, some 100, some 101, some 102, some 103, some 104, some 105, some 106, some 107, some 108, some 109, some 110, some 111, some 112, some 113, some 114, some 16] [some (67, _), some (68, _), some (69, _), some (70, _), some (71, _), some (72, _), some (73, _), some (74, _), some (75, _), some (76, _), some (77, _), some (78, _), some (79, _), some (80, _), some (81, _), some (82, _), some (83, _), some (84, _), some (85, _), some (86, _), some (87, _), some (88, _), some (89, _), some (90, _), some (91, _), some (92, _), some (93, _), some (94, _), some (95, _), some (96, _), some (97, _), some (98, _), some (99, _), some (100, _), some (101, _), some (102, _), some (103, _), some (104, _), some (105, _), some (106, _), some (107, _), some (108, _), some (109, _), some (110, _), some (111, _), some (112, _), some (113, _), some (114, _), some (16, _)] [] [2, 3, 8, 9, 14, 18, 19, 24, 25, 30, 34, 35, 39, 40, 44, 45] rfl (by decide) (by decide) (QAll.free (by decide) rfl rfl ?q3x1_0 (QAll.free (by decide) rfl rfl ?q3x1_1 (QAll.held (by decide) rfl rfl ?q3x1_2 (QAll.held (by decide) rfl rfl ?q3x1_3 (QAll.free (by decide) rfl rfl ?q3x1_4 (QAll.free (by decide) rfl rfl ?q3x1_5 (QAll.free (by decide) rfl rfl ?q3x1_6 (QAll.free (by decide) rfl rfl ?q3x1_7 (QAll.held (by decide) rfl rfl ?q3x1_8 (QAll.held (by decide) rfl rfl ?q3x1_9 (QAll.free (by decide) rfl rfl ?q3x1_10 (QAll.free (by decide) rfl rfl ?q3x1_11 (QAll.free (by decide) rfl rfl ?q3x1_12 (QAll.free (by decide) rfl rfl ?q3x1_13 (QAll.held (by decide) rfl rfl ?q3x1_14 (QAll.free (by decide) rfl rfl ?q3x1_15 (QAll.free (by decide) rfl rfl ?q3x1_16 (QAll.free (by decide) rfl rfl ?q3x1_17 (QAll.held (by decide) rfl rfl ?q3x1_18 (QAll.held (by decide) rfl rfl ?q3x1_19 (QAll.free (by decide) rfl rfl ?q3x1_20 (QAll.free (by decide) rfl rfl ?q3x1_21 (QAll.free (by decide) rfl rfl ?q3x1_22 (QAll.free (by decide) rfl rfl ?q3x1_23 (QAll.held (by decide) rfl rfl ?q3x1_24 (QAll.held (by decide) rfl rfl ?q3x1_25 (QAll.free (by decide) rfl rfl ?q3x1_26 (QAll.free (by decide) rfl rfl ?q3x1_27 (QAll.free (by decide) rfl rfl ?q3x1_28 (QAll.free (by decide) rfl rfl ?q3x1_29 (QAll.held (by decide) rfl rfl ?q3x1_30 (QAll.free (by decide) rfl rfl ?q3x1_31 (QAll.free (by decide) rfl rfl ?q3x1_32 (QAll.free (by decide) rfl rfl ?q3x1_33 (QAll.held (by decide) rfl rfl ?q3x1_34 (QAll.held (by decide) rfl rfl ?q3x1_35 (QAll.free (by decide) rfl rfl ?q3x1_36 (QAll.free (by decide) rfl rfl ?q3x1_37 (QAll.free (by decide) rfl rfl ?q3x1_38 (QAll.held (by decide) rfl rfl ?q3x1_39 (QAll.held (by decide) rfl rfl ?q3x1_40 (QAll.free (by decide) rfl rfl ?q3x1_41 (QAll.free (by decide) rfl rfl ?q3x1_42 (QAll.free (by decide) rfl rfl ?q3x1_43 (QAll.held (by decide) rfl rfl ?q3x1_44 (QAll.held (by decide) rfl rfl ?q3x1_45 (QAll.free (by decide) rfl rfl ?q3x1_46 (QAll.free (by decide) rfl rfl ?q3x1_47 (QAll.free (by decide) rfl rfl ?q3x1_48 QAll.nil))))))))))))))))))))))))))))))))))))))))))))))))) ?q3x1_k
  case q3x1_0 => (intro _; exact Z.mv rfl)
  case q3x1_1 => (intro _; exact Z.mv rfl)
  case q3x1_2 => exact Z.on (Z.ldw 3 ty27 rfl rfl (encV_len _))
  case q3x1_3 => exact Z.on (Z.ldw 2 ty27 rfl rfl (encV_len _))
  case q3x1_4 => (intro _; exact Z.on (Z.mv rfl))
  case q3x1_5 => (intro _; exact Z.on (Z.call rfl rfl q1))
  case q3x1_6 => (intro _; exact Z.pick rfl rfl)
  case q3x1_7 => (intro _; exact Z.mv rfl)
  case q3x1_8 => exact Z.on (Z.ldw 1 ty27 rfl rfl (encV_len _))
  case q3x1_9 => exact Z.on (Z.ldw 0 ty27 rfl rfl (encV_len _))
  case q3x1_10 => (intro _; exact Z.on (Z.mv rfl))
  case q3x1_11 => (intro _; exact Z.on (Z.mv rfl))
  case q3x1_12 => (intro _; exact Z.on (Z.bi rfl rfl rfl))
  case q3x1_13 => (intro _; exact Z.on (Z.ia sl24 rfl rfl (by omega) e1 rfl))
  case q3x1_14 => exact Z.on (Z.lpc ty9 rfl)
  case q3x1_15 => (intro _; exact Z.on (Z.call rfl rfl q2))
  case q3x1_16 => (intro _; exact Z.pick rfl rfl)
  case q3x1_17 => (intro _; exact Z.mv rfl)
  case q3x1_18 => exact Z.on (Z.ldw 1 ty27 rfl rfl (encV_len _))
  case q3x1_19 => exact Z.on (Z.ldw 3 ty27 rfl rfl (encV_len _))
  case q3x1_20 => (intro _; exact Z.on (Z.mv rfl))
  case q3x1_21 => (intro _; exact Z.on (Z.call rfl rfl q3))
  case q3x1_22 => (intro _; exact Z.pick rfl rfl)
  case q3x1_23 => (intro _; exact Z.mv rfl)
  case q3x1_24 => exact Z.on (Z.ldw 2 ty27 rfl rfl (encV_len _))
  case q3x1_25 => exact Z.on (Z.ldw 1 ty27 rfl rfl (encV_len _))
  case q3x1_26 => (intro _; exact Z.on (Z.mv rfl))
  case q3x1_27 => (intro _; exact Z.on (Z.mv rfl))
  case q3x1_28 => (intro _; exact Z.on (Z.bi rfl rfl rfl))
  case q3x1_29 => (intro _; exact Z.on (Z.ia sl24 rfl rfl (by omega) e1 rfl))
  case q3x1_30 => exact Z.on (Z.lpc ty9 rfl)
  case q3x1_31 => (intro _; exact Z.on (Z.call rfl rfl q4))
  case q3x1_32 => (intro _; exact Z.pick rfl rfl)
  case q3x1_33 => (intro _; exact Z.mv rfl)
  case q3x1_34 => exact Z.on (Z.ldw 3 ty27 rfl rfl (encV_len _))
  case q3x1_35 => exact Z.on (Z.ldw 2 ty27 rfl rfl (encV_len _))
  case q3x1_36 => (intro _; exact Z.on (Z.call rfl rfl r1))
  case q3x1_37 => (intro _; exact Z.pick rfl rfl)
  case q3x1_38 => (intro _; exact Z.mv rfl)
  case q3x1_39 => exact Z.on (Z.ldw 1 ty27 rfl rfl (encV_len _))
  case q3x1_40 => exact Z.on (Z.ldw 0 ty27 rfl rfl (encV_len _))
  case q3x1_41 => (intro _; exact Z.on (Z.call rfl rfl r2))
  case q3x1_42 => (intro _; exact Z.pick rfl rfl)
  case q3x1_43 => (intro _; exact Z.mv rfl)
  case q3x1_44 => exact Z.on (Z.ldw 1 ty27 rfl rfl (encV_len _))
  case q3x1_45 => exact Z.on (Z.ldw 1 ty27 rfl rfl (encV_len _))
  case q3x1_46 => (intro _; exact Z.on (Z.call rfl rfl r3))
  case q3x1_47 => (intro _; exact Z.pick rfl rfl)
  case q3x1_48 => (intro _; exact Z.as rfl)
  refine CH.nil <| ?_
  simp only [app, finL]
  refine UQ.then <| UW.ret <| S.rtR (fun _ => res_tmp rfl rfl) <| ?_
  rfl
end Go.Proofs.Ytopaddebalfoeaa
