/- The law ValueDeep: what it answers. -/
import Derived.Test.YtopaddebalfoeaaS4
namespace Go.Proofs.Ytopaddebalfoeaa
open Go Go.RowKit Go.Eng
set_option linter.unusedSimpArgs false
set_option linter.unusedVariables false
set_option maxRecDepth 100000
set_option maxHeartbeats 4000000
theorem deep_one (x : V) : deepV (.mk 4 0 ⟨#[]⟩ [] [x]) = deepV x + 1 := by
  have h := deepV_nonneg x
  rw [deepV, if_pos (.inl rfl), deepsV, deepsV]
  show 1 + maxL [deepV x, 0] = _
  simp only [maxL, List.foldl_cons, List.foldl_nil]
  split <;> omega
theorem with_zero (key : ByteArray) (y : V) : withV zeroV key y = .mk 5 0 ⟨#[]⟩ [key] [y] := rfl
theorem deep_one5 (key : ByteArray) (x : V) : deepV (.mk 5 0 ⟨#[]⟩ [key] [x]) = deepV x + 1 := by
  have h := deepV_nonneg x
  rw [deepV, if_pos (.inr rfl), deepsV, deepsV]
  show 1 + maxL [deepV x, 0] = _
  simp only [maxL, List.foldl_cons, List.foldl_nil]
  split <;> omega
theorem right_k {k n : Int} {t : ByteArray} {ks : List ByteArray} {vs : List V} (h : rightV (.mk k n t ks vs) = true) : 0 ≤ k ∧ k ≤ 5 ∧ (k < 4 → vs.length = 0) := by
  refine ⟨?_, ?_, fun h1 => ?_⟩
  · by_cases h1 : 0 ≤ k
    · exact h1
    · rw [right_no1 (.inl (by omega))] at h; cases h
  · by_cases h1 : k ≤ 5
    · exact h1
    · rw [right_no1 (.inr (.inl (by omega)))] at h; cases h
  · by_cases h2 : vs.length = 0
    · exact h2
    · rw [right_no4 h1 (by omega)] at h; cases h
theorem deep_pos {k n : Int} {t : ByteArray} {ks : List ByteArray} {vs : List V} (h : rightV (.mk k n t ks vs) = true) : (decide (deepV (.mk k n t ks vs) > 0) == decide (k ≥ 4)) = true := by
  obtain ⟨h0, h5, _⟩ := right_k h
  by_cases hk : k = 4 ∨ k = 5
  · have : 0 < deepV (.mk k n t ks vs) := by
      rw [deepV, if_pos hk]
      have := le_maxL (l := deepsV vs ++ [0]) (c := 0) (by simp)
      omega
    rw [decide_eq_true (by omega : deepV (.mk k n t ks vs) > 0), decide_eq_true (by omega : k ≥ 4)]; rfl
  · have : deepV (.mk k n t ks vs) = 0 := by rw [deepV, if_neg hk]
    rw [decide_eq_false (by omega : ¬ deepV (.mk k n t ks vs) > 0), decide_eq_false (by omega : ¬ k ≥ 4)]; rfl
theorem good_arr1 {x : V} {d : Int} (hd : 0 ≤ d) (h : Good d x) : Good (d + 1) (.mk 4 0 ⟨#[]⟩ [] [x]) := good_mk hd (by simp) (by simp) (by decide) (by simp) (fun v hv => by cases List.mem_singleton.1 hv; exact h)
theorem good_obj1 {x : V} {d : Int} (s : ByteArray) (hs : s.size ≤ 4000000) (hd : 0 ≤ d) (h : Good d x) : Good (d + 1) (.mk 5 0 ⟨#[]⟩ [s] [x]) := good_mk hd (by simp) (by simp) (by decide) (fun v hv => by cases List.mem_singleton.1 hv; exact hs) (fun v hv => by cases List.mem_singleton.1 hv; exact h)
theorem fits_kid {k n : Int} {t : ByteArray} {ks : List ByteArray} {vs : List V} (h : Fits (.mk k n t ks vs)) {j : Nat} (hj : j < vs.length) : Fits (vs.getD j zeroV) := by cases h with | mk _ _ _ _ _ h1 h2 h3 => exact h3 _ (getD_mem hj)
theorem valueDeep_spec (c : List Int) (hc : Bys c) (b : Int) (hb0 : 0 ≤ b) (hb1 : b < 256) (H : Hp) : ACall Try.prog 5 [u8s c, .v (.int .u8 b)] H (IsR H (.v (.bool true))) := by
  have hpart : ∀ H, ACall Try.prog 19 [u8s c, .v (.int .u8 b)] H (IsR H (.agg (encV (partV c b)))) := part_spec c hc b hb0 hb1
  have hg := partV_good c b hb0
  have hr := partV_right c b hb0
  generalize partV c b = x at *
  obtain ⟨k, n, t, ks, vs⟩ := x
  have hvl := encVs_len vs
  have hrk := right_k hr
  have hd0 := deepV_nonneg (.mk k n t ks vs)
  have hd1 := hg.2.2
  have hvb := hg.1.vsl
  simp only [V.vs] at hvb
  have harr := good_arr1 (d := 30) (by decide) hg
  have hwth := good_obj1 (d := 31) ⟨#[97]⟩ (by decide) (by decide) harr
  have e1 := deep_one (.mk k n t ks vs)
  have e2 := deep_one5 ⟨#[97]⟩ (.mk 4 0 ⟨#[]⟩ [] [.mk k n t ks vs])
  have e3 := deep_pos hr
  refine UCall (n := 58) (H0 := H) (objs := []) Try.func5 (by kernel_rfl) rfl (by rw [Try.ntmps5]; rfl) .nil ?_
  refine S.sq (S.rg ?_)
  refine S.qu (Z.as rfl) ?_
  refine US.nil (UQ.then (S.sq (S.rg ?_)))
  refine S.qu (Z.mv rfl) ?_
  refine S.qu (Z.mv rfl) ?_
  refine S.qu (Z.call rfl rfl (fun _ => hpart _)) ?_
  refine S.dd (D.al z27 rfl rfl rfl (fun p5 => ?_))
  refine S.s (D.st 0 ty27 rfl rfl rfl rfl rfl rfl rfl rfl (fun _ => ?_))
  refine US.nil (UQ.then (S.sq (S.sq (S.rg ?_))))
  refine S.qu (Z.as rfl) ?_
  refine US.nil (UQ.then (UW.block ?_))
  refine S.loop (fun j : Nat => [(6, .v (.int .i64 (j : Int))), (5, .ptr p5 0)]) (fun _ => [(p5, .box 27 (encV (.mk k n t ks vs)))]) (fun j => j ≤ vs.length) (fun j => vs.length - j) 0 (Nat.zero_le _) ⟨rfl, rfl, trivial⟩ (.refl _) ?_
  rintro j hj
  by_cases hlt : j < vs.length
  · have hkg := kid_get vs j hlt
    have hlv := deepV_lt (k := k) (n := n) (t := t) (ks := ks) (vs := vs) (x := vs.getD j zeroV) (by omega) (getD_mem hlt)
    refine S.sq (S.sq (S.rg ?_))
    refine S.qu (Z.mv rfl) ?_
    refine S.qu (Z.fa f27_4 rfl) ?_
    refine S.qu (Z.ldc 0 ty25 rfl rfl rfl) ?_
    refine S.qu (Z.lns sl25 rfl) ?_
    refine S.qu (Z.bi rfl rfl rfl) ?_
    refine US.nil (UQ.then ?_)
    refine S.cT rfl (decide_eq_true (by omega)) ?_
    refine UW.skip (UQ.then (S.sq (UW.block (S.sq ?_))))
    refine' UW.draw' (by kernel_rfl) [0, 1, 0, 7, 15, 31, 0, 127, 255] [some 18, some 19, some 20, some 21, some 22, some 23, some 24, some 25, some 26] [some (18, _), some (19, _), some (20, _), some (21, _), some (22, _), some (23, _), some (24, _), some (25, _), some (26, _)] [] [1, 4, 6] rfl (by decide) (by decide) (QAll.free (by decide) rfl rfl ?q1x0_0 (QAll.held (by decide) rfl rfl ?q1x0_1 (QAll.free (by decide) rfl rfl ?q1x0_2 (QAll.free (by decide) rfl rfl ?q1x0_3 (QAll.held (by decide) rfl rfl ?q1x0_4 (QAll.free (by decide) rfl rfl ?q1x0_5 (QAll.held (by decide) rfl rfl ?q1x0_6 (QAll.free (by decide) rfl rfl ?q1x0_7 (QAll.free (by decide) rfl rfl ?q1x0_8 QAll.nil))))))))) ?q1x0_k
    case q1x0_0 => exact fun _ => Z.fa f27_4 rfl
    case q1x0_1 => exact Z.ldc 0 ty25 rfl rfl rfl
    case q1x0_2 => exact fun _ => Z.mv rfl
    case q1x0_3 => exact fun _ => Z.ia sl25 rfl rfl (by omega) (by assumption) (by exact encV_len _)
    case q1x0_4 => exact Z.lpa ty27 rfl (encV_len _)
    case q1x0_5 => exact fun _ => Z.call rfl rfl (fun _ => deep_spec (vs.getD j zeroV) (fits_kid hg.1 hlt) (by omega) _)
    case q1x0_6 => exact Z.ldw 0 ty27 rfl rfl rfl
    case q1x0_7 => exact fun _ => Z.call rfl rfl (fun _ => deep_spec (.mk k n t ks vs) hg.1 (by omega) _)
    case q1x0_8 => exact fun _ => Z.eq (u' := .v (.bool false)) (Z.bi rfl rfl rfl) (by rw [decide_eq_false (by omega)])
    refine CH.nil ?_
    simp only [app, finL]
    refine UQ.then ?_
    refine S.cF rfl rfl ?_
    refine UW.skip (UQ.blockN (UQ.then (S.rg ?_)))
    refine S.qu (Z.mv rfl) ?_
    refine S.qu (Z.add (r := ((j + 1 : Nat) : Int)) rfl rfl (IntWalk.i64_in _ (by omega))) ?_
    refine S.qu (Z.as rfl) ?_
    refine US.nil ?_
    refine S.back _ ⟨rfl, rfl, trivial⟩ (.refl _) (by omega) (by omega)
  · refine S.sq (S.sq (S.rg ?_))
    refine S.qu (Z.mv rfl) ?_
    refine S.qu (Z.fa f27_4 rfl) ?_
    refine S.qu (Z.ldc 0 ty25 rfl rfl rfl) ?_
    refine S.qu (Z.lns sl25 rfl) ?_
    refine S.qu (Z.bi rfl rfl rfl) ?_
    refine US.nil (UQ.then ?_)
    refine S.cF rfl (decide_eq_false (by omega)) ?_
    refine UW.exit (UQ.pass (UQ.pass (UQ.here (UQ.then (S.sq (S.rg ?_))))))
    refine S.qu (Z.ldw 0 ty27 rfl rfl rfl) ?_
    refine S.qu (Z.bl row25 rfl rfl (lit_ok rfl)) ?_
    refine S.qu (Z.bd [0, 4] bt27 rfl rfl rfl rfl rfl rfl) ?_
    refine S.dd (D.al z27 rfl rfl rfl (fun p7 => ?_))
    refine S.s (D.st 0 ty27 rfl rfl rfl rfl rfl rfl rfl rfl (fun _ => ?_))
    refine US.nil (UQ.then (S.sq ?_))
    refine' UW.draw' (by kernel_rfl) [0, 1, 3, 7, 3, 31, 63, 127, 255, 511, 1023, 1023, 4095, 8191, 1023, 32767, 65535, 131071, 262143, 524287, 1048575, 2097151, 4194303, 1048575, 9437183, 26214399, 67108863, 134217727, 268435455] [some 30, some 31, some 32, some 33, some 34, some 35, some 36, some 37, some 38, some 39, some 40, some 41, some 42, some 43, some 44, some 45, some 46, some 47, some 48, some 49, some 50, some 51, some 52, some 53, some 54, some 55, some 56, some 57, some 4] [some (30, _), some (31, _), some (32, _), some (33, _), some (34, _), some (35, _), some (36, _), some (37, _), some (38, _), some (39, _), some (40, _), some (41, _), some (42, _), some (43, _), some (44, _), some (45, _), some (46, _), some (47, _), some (48, _), some (49, _), some (50, _), some (51, _), some (52, _), some (53, _), some (54, _), some (55, _), some (56, _), some (57, _), some (4, _)] [] [2, 4, 11, 14, 20, 24] rfl (by decide) (by decide) (QAll.free (by decide) rfl rfl ?q2x0_0 (QAll.free (by decide) rfl rfl ?q2x0_1 (QAll.held (by decide) rfl rfl ?q2x0_2 (QAll.free (by decide) rfl rfl ?q2x0_3 (QAll.held (by decide) rfl rfl ?q2x0_4 (QAll.free (by decide) rfl rfl ?q2x0_5 (QAll.free (by decide) rfl rfl ?q2x0_6 (QAll.free (by decide) rfl rfl ?q2x0_7 (QAll.free (by decide) rfl rfl ?q2x0_8 (QAll.free (by decide) rfl rfl ?q2x0_9 (QAll.free (by decide) rfl rfl ?q2x0_10 (QAll.held (by decide) rfl rfl ?q2x0_11 (QAll.free (by decide) rfl rfl ?q2x0_12 (QAll.free (by decide) rfl rfl ?q2x0_13 (QAll.held (by decide) rfl rfl ?q2x0_14 (QAll.free (by decide) rfl rfl ?q2x0_15 (QAll.free (by decide) rfl rfl ?q2x0_16 (QAll.free (by decide) rfl rfl ?q2x0_17 (QAll.free (by decide) rfl rfl ?q2x0_18 (QAll.free (by decide) rfl rfl ?q2x0_19 (QAll.held (by decide) rfl rfl ?q2x0_20 (QAll.free (by decide) rfl rfl ?q2x0_21 (QAll.free (by decide) rfl rfl ?q2x0_22 (QAll.free (by decide) rfl rfl ?q2x0_23 (QAll.held (by decide) rfl rfl ?q2x0_24 (QAll.free (by decide) rfl rfl ?q2x0_25 (QAll.free (by decide) rfl rfl ?q2x0_26 (QAll.free (by decide) rfl rfl ?q2x0_27 (QAll.free (by decide) rfl rfl ?q2x0_28 QAll.nil))))))))))))))))))))))))))))) ?q2x0_k
    case q2x0_0 => exact fun _ => Z.call rfl rfl (fun _ => known_spec _)
    case q2x0_1 => exact fun _ => Z.mv rfl
    case q2x0_2 => exact Z.on (Z.ldw 0 ty27 rfl rfl rfl)
    case q2x0_3 => exact fun _ => Z.on (Z.eq (u' := .v (.int .i64 (deepV (.mk k n t ks vs) + 1))) (Z.call rfl rfl (fun _ => deep_spec (.mk 4 0 ⟨#[]⟩ [] [.mk k n t ks vs]) harr.1 (by omega) _)) (by rw [e1]))
    case q2x0_4 => exact Z.on (Z.ldw 1 ty27 rfl rfl rfl)
    case q2x0_5 => exact fun _ => Z.on (Z.call rfl rfl (fun _ => deep_spec (.mk k n t ks vs) hg.1 (by omega) _))
    case q2x0_6 => exact fun _ => Z.on (Z.add rfl rfl (IntWalk.i64_in _ (by omega)))
    case q2x0_7 => exact fun _ => Z.on (Z.eq (u' := .v (.bool true)) (Z.bi rfl rfl rfl) (by simp))
    case q2x0_8 => exact fun _ => Z.pick rfl rfl
    case q2x0_9 => exact fun _ => Z.mv rfl
    case q2x0_10 => exact fun _ => Z.on (Z.bd [] bt27 rfl rfl rfl rfl rfl rfl)
    case q2x0_11 => exact Z.on (Z.ldw 0 ty27 rfl rfl rfl)
    case q2x0_12 => exact fun _ => Z.on (Z.call rfl rfl (fun _ => with_spec zeroV (good_zero (d := 0) (by decide)).1 _ (.mk 4 0 ⟨#[]⟩ [] [.mk k n t ks vs]) harr.1 _))
    case q2x0_13 => exact fun _ => Z.on (Z.eq (u' := .v (.int .i64 (deepV (.mk k n t ks vs) + 2))) (Z.call rfl rfl (fun _ => deep_spec (.mk 5 0 ⟨#[]⟩ [⟨#[97]⟩] [.mk 4 0 ⟨#[]⟩ [] [.mk k n t ks vs]]) hwth.1 (by omega) _)) (by rw [e2, e1]; congr 2; omega))
    case q2x0_14 => exact Z.on (Z.ldw 1 ty27 rfl rfl rfl)
    case q2x0_15 => exact fun _ => Z.on (Z.call rfl rfl (fun _ => deep_spec (.mk k n t ks vs) hg.1 (by omega) _))
    case q2x0_16 => exact fun _ => Z.on (Z.add rfl rfl (IntWalk.i64_in _ (by omega)))
    case q2x0_17 => exact fun _ => Z.on (Z.eq (u' := .v (.bool true)) (Z.bi rfl rfl rfl) (by simp))
    case q2x0_18 => exact fun _ => Z.pick rfl rfl
    case q2x0_19 => exact fun _ => Z.mv rfl
    case q2x0_20 => exact Z.on (Z.ldw 1 ty27 rfl rfl rfl)
    case q2x0_21 => exact fun _ => Z.on (Z.call rfl rfl (fun _ => deep_spec (.mk k n t ks vs) hg.1 (by omega) _))
    case q2x0_22 => exact fun _ => Z.on (Z.bi rfl rfl rfl)
    case q2x0_23 => exact fun _ => Z.on (Z.fa f27_0 rfl)
    case q2x0_24 => exact Z.on (Z.ldc 1 ty3 rfl rfl rfl)
    case q2x0_25 => exact fun _ => Z.on (Z.bi rfl rfl rfl)
    case q2x0_26 => exact fun _ => Z.on (Z.eq (u' := .v (.bool true)) (Z.beq Try.underlying4 rfl rfl) (by rw [e3]))
    case q2x0_27 => exact fun _ => Z.pick rfl rfl
    case q2x0_28 => exact fun _ => Z.as rfl
    refine CH.nil ?_
    simp only [app, finL]
    refine UQ.then (UW.ret ?_)
    refine S.rtR (fun _ => res_tmp rfl rfl) ?_
    rfl
end Go.Proofs.Ytopaddebalfoeaa
