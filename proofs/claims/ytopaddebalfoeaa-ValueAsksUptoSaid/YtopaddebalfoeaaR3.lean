/- The document's answers of layer 2: what they compute: keys, Right. -/
import Derived.Test.YtopaddebalfoeaaR2
namespace Go.Proofs.Ytopaddebalfoeaa
open Go Go.RowKit Go.Eng
set_option linter.unusedSimpArgs false
set_option linter.unusedVariables false
set_option maxRecDepth 100000
theorem checkR_spec' (s : ByteArray) (hs : s.size ≤ 4000000) (H : Hp) : ACall Try.prog 18 [.v (.string s)] H (IsR H (.v (.int .i64 (chk s)))) := by rw [chk_eq]; exact checkR_spec s hs H
def keysOk (ks : List ByteArray) : Bool := (List.range ks.length).all (okKey ks)
theorem keysR_spec (ks : List ByteArray) (hl : ks.length ≤ 1000000) (hks : ∀ s ∈ ks, s.size ≤ 4000000) (H : Hp) : ACall Try.prog 53 [strs ks] H (IsR H (.v (.bool (keysOk ks)))) := by
  have hml : (ks.map encS).length = ks.length := List.length_map ..
  refine UCall (n := 33) (H0 := H) (objs := []) Try.func53 (by kernel_rfl) rfl (by rw [Try.ntmps53]; rfl) .nil <| ?_
  refine Q.rg <| Q.as rfl <| Q.nt <| S.sq <| Q.rg <| Q.as rfl <| Q.nt <| UW.block <| S.loop (fun j : Nat => [(3, .v (.int .i64 (j : Int))), (0, strs ks)]) (fun _ => []) (fun j => j ≤ ks.length ∧ ∀ i, i < j → okKey ks i = true) (fun j => ks.length - j) 0 ⟨Nat.zero_le _, fun i h => absurd h (by omega)⟩ ⟨rfl, rfl, trivial⟩ (.refl _) <| ?_
  rintro j ⟨hj, hjj⟩
  by_cases hlt : j < ks.length
  · have hgl := strs_get ks j hlt
    have hge : ks.getD j ⟨#[]⟩ = ks[j] := getD_at hlt
    have bad : okKey ks j = false → keysOk ks = false := fun hb => by
      unfold keysOk
      rw [List.all_eq_false]
      exact ⟨j, List.mem_range.2 hlt, by simp [hb]⟩
    have good : okKey ks j = true → ∀ i, i < j + 1 → okKey ks i = true := fun hb i hi => by
      by_cases hij : i = j
      · subst hij; exact hb
      · exact hjj i (by omega)
    by_cases hC : 0 ≤ chk ks[j]
    · have hb := bad (by unfold okKey; rw [hge, decide_eq_false (by omega)]; rfl)
      refine S.sq <| Q.rg <| Q.mv rfl <| Q.mv rfl <| S.qu (Z.lns sl24 rfl) <| Q.bi rfl rfl rfl <| Q.nt <| S.cT rfl (decide_eq_true (by omega)) <| UW.skip <| UQ.then <| S.sq <| UW.block <| S.sq <| ?_
      refine' UW.draw' (by kernel_rfl) [0, 0, 3, 7, 15, 31, 63, 127, 255, 511, 1023, 1023, 3071, 8191, 16383, 1023, 1023, 99327, 230399, 524287, 1048575, 2097151, 4194303] [some 10, some 11, some 12, some 13, some 14, some 15, some 16, some 17, some 18, some 19, some 20, some 21, some 22, some 23, some 24, some 25, some 26, some 27, some 28, some 29, some 30, some 31, some 32] [some (10, _), some (11, _), some (12, _), some (13, _), some (14, _), some (15, _), some (16, _), some (17, _), some (18, _), some (19, _), some (20, _), some (21, _), some (22, _), some (23, _), some (24, _), some (25, _), some (26, _), some (27, _), some (28, _), some (29, _), some (30, _), some (31, _), some (32, _)] [] [3, 14, 18] rfl (by decide) (by decide) (QAll.free (by decide) rfl rfl ?q1x0_0 (QAll.free (by decide) rfl rfl ?q1x0_1 (QAll.free (by decide) rfl rfl ?q1x0_2 (QAll.held (by decide) rfl rfl ?q1x0_3 (QAll.free (by decide) rfl rfl ?q1x0_4 (QAll.free (by decide) rfl rfl ?q1x0_5 (QAll.free (by decide) rfl rfl ?q1x0_6 (QAll.free (by decide) rfl rfl ?q1x0_7 (QAll.free (by decide) rfl rfl ?q1x0_8 (QAll.free (by decide) rfl rfl ?q1x0_9 (QAll.free (by decide) rfl rfl ?q1x0_10 (QAll.free (by decide) rfl rfl ?q1x0_11 (QAll.free (by decide) rfl rfl ?q1x0_12 (QAll.free (by decide) rfl rfl ?q1x0_13 (QAll.held (by decide) rfl rfl ?q1x0_14 (QAll.free (by decide) rfl rfl ?q1x0_15 (QAll.free (by decide) rfl rfl ?q1x0_16 (QAll.free (by decide) rfl rfl ?q1x0_17 (QAll.held (by decide) rfl rfl ?q1x0_18 (QAll.free (by decide) rfl rfl ?q1x0_19 (QAll.free (by decide) rfl rfl ?q1x0_20 (QAll.free (by decide) rfl rfl ?q1x0_21 (QAll.free (by decide) rfl rfl ?q1x0_22 QAll.nil))))))))))))))))))))))) ?q1x0_k
      case q1x0_0 => exact fun _ => Z.mv rfl
      case q1x0_1 => exact fun _ => Z.mv rfl
      case q1x0_2 => exact fun _ => Z.ia sl24 rfl rfl (by omega) (by assumption) (by rfl)
      case q1x0_3 => exact Z.lpc ty9 rfl
      case q1x0_4 => exact fun _ => Z.call rfl rfl (fun _ => checkR_spec' _ (hks _ (List.getElem_mem hlt)) _)
      case q1x0_5 => exact fun _ => Z.tT (Z.bi rfl rfl rfl) (decide_eq_true (by omega))
      case q1x0_6 => exact fun _ => Z.mv rfl
      case q1x0_7 => exact fun _ => Z.of
      case q1x0_8 => exact fun _ => Z.of
      case q1x0_9 => exact fun _ => Z.of
      case q1x0_10 => exact fun _ => Z.of2
      case q1x0_11 => exact fun _ => Z.of2
      case q1x0_12 => exact fun _ => Z.of2
      case q1x0_13 => exact fun _ => Z.of2
      case q1x0_14 => exact Z.of2
      case q1x0_15 => exact fun _ => Z.of2
      case q1x0_16 => exact fun _ => Z.of2
      case q1x0_17 => exact fun _ => Z.of2
      case q1x0_18 => exact Z.of2
      case q1x0_19 => exact fun _ => Z.of2
      case q1x0_20 => exact fun _ => Z.of2
      case q1x0_21 => exact fun _ => Z.of
      case q1x0_22 => exact fun _ => Z.pick rfl rfl
      refine CH.nil <| ?_
      simp only [app, finL]
      refine UQ.then <| S.cT rfl rfl <| Q.rg <| Q.as rfl <| Q.nt <| UW.ret <| UQ.blockR <| UQ.passR <| UQ.passR <| UQ.blockR <| UQ.passR <| S.rtR (fun _ => res_tmp rfl rfl) <| ?_
      focus (rw [hb]; done)
    · by_cases h0 : 0 < j
      · have hgp := strs_before ks j hlt h0
        have hpm : ks.getD (j - 1) ⟨#[]⟩ ∈ ks := getD_mem (by omega)
        have hpb := hks _ hpm
        cases hL : lessB (ks.getD (j - 1) ⟨#[]⟩) ks[j] with
        | true =>
          have hL2 : (!(lessB (ks.getD (j - 1) ⟨#[]⟩) ks[j])) = false := by rw [hL]; rfl
          have hok : okKey ks j = true := by
            unfold lessB at hL
            unfold okKey; rw [hge, hL, decide_eq_true (by omega)]; simp
          refine S.sq <| Q.rg <| Q.mv rfl <| Q.mv rfl <| S.qu (Z.lns sl24 rfl) <| Q.bi rfl rfl rfl <| Q.nt <| S.cT rfl (decide_eq_true (by omega)) <| UW.skip <| UQ.then <| S.sq <| UW.block <| S.sq <| ?_
          refine' UW.draw' (by kernel_rfl) [0, 0, 3, 7, 15, 31, 63, 127, 255, 511, 1023, 1023, 3071, 8191, 16383, 1023, 1023, 99327, 230399, 524287, 1048575, 2097151, 4194303] [some 10, some 11, some 12, some 13, some 14, some 15, some 16, some 17, some 18, some 19, some 20, some 21, some 22, some 23, some 24, some 25, some 26, some 27, some 28, some 29, some 30, some 31, some 32] [some (10, _), some (11, _), some (12, _), some (13, _), some (14, _), some (15, _), some (16, _), some (17, _), some (18, _), some (19, _), some (20, _), some (21, _), some (22, _), some (23, _), some (24, _), some (25, _), some (26, _), some (27, _), some (28, _), some (29, _), some (30, _), some (31, _), some (32, _)] [] [3, 14, 18] rfl (by decide) (by decide) (QAll.free (by decide) rfl rfl ?q2x0_0 (QAll.free (by decide) rfl rfl ?q2x0_1 (QAll.free (by decide) rfl rfl ?q2x0_2 (QAll.held (by decide) rfl rfl ?q2x0_3 (QAll.free (by decide) rfl rfl ?q2x0_4 (QAll.free (by decide) rfl rfl ?q2x0_5 (QAll.free (by decide) rfl rfl ?q2x0_6 (QAll.free (by decide) rfl rfl ?q2x0_7 (QAll.free (by decide) rfl rfl ?q2x0_8 (QAll.free (by decide) rfl rfl ?q2x0_9 (QAll.free (by decide) rfl rfl ?q2x0_10 (QAll.free (by decide) rfl rfl ?q2x0_11 (QAll.free (by decide) rfl rfl ?q2x0_12 (QAll.free (by decide) rfl rfl ?q2x0_13 (QAll.held (by decide) rfl rfl ?q2x0_14 (QAll.free (by decide) rfl rfl ?q2x0_15 (QAll.free (by decide) rfl rfl ?q2x0_16 (QAll.free (by decide) rfl rfl ?q2x0_17 (QAll.held (by decide) rfl rfl ?q2x0_18 (QAll.free (by decide) rfl rfl ?q2x0_19 (QAll.free (by decide) rfl rfl ?q2x0_20 (QAll.free (by decide) rfl rfl ?q2x0_21 (QAll.free (by decide) rfl rfl ?q2x0_22 QAll.nil))))))))))))))))))))))) ?q2x0_k
          case q2x0_0 => exact fun _ => Z.mv rfl
          case q2x0_1 => exact fun _ => Z.mv rfl
          case q2x0_2 => exact fun _ => Z.ia sl24 rfl rfl (by omega) (by assumption) (by rfl)
          case q2x0_3 => exact Z.lpc ty9 rfl
          case q2x0_4 => exact fun _ => Z.call rfl rfl (fun _ => checkR_spec' _ (hks _ (List.getElem_mem hlt)) _)
          case q2x0_5 => exact fun _ => Z.tF (Z.bi rfl rfl rfl) (decide_eq_false (by omega))
          case q2x0_6 => exact fun _ => Z.mv rfl
          case q2x0_7 => exact fun _ => Z.on (Z.mv rfl)
          case q2x0_8 => exact fun _ => Z.on (Z.tT (Z.bi rfl rfl rfl) (decide_eq_true (by omega)))
          case q2x0_9 => exact fun _ => Z.on (Z.mv rfl)
          case q2x0_10 => exact fun _ => Z.on (Z.mv rfl)
          case q2x0_11 => exact fun _ => Z.on (Z.mv rfl)
          case q2x0_12 => exact fun _ => Z.on (Z.sub rfl rfl (IntWalk.i64_in _ (by omega)))
          case q2x0_13 => exact fun _ => Z.on (Z.ia sl24 rfl rfl (by omega) (by assumption) (by rfl))
          case q2x0_14 => exact Z.on (Z.lpc ty9 rfl)
          case q2x0_15 => exact fun _ => Z.on (Z.mv rfl)
          case q2x0_16 => exact fun _ => Z.on (Z.mv rfl)
          case q2x0_17 => exact fun _ => Z.on (Z.ia sl24 rfl rfl (by omega) (by assumption) (by rfl))
          case q2x0_18 => exact Z.on (Z.lpc ty9 rfl)
          case q2x0_19 => exact fun _ => Z.on (Z.tT (Z.call rfl rfl (fun _ => lessR_spec _ _ hpb _)) (by assumption))
          case q2x0_20 => exact fun _ => Z.on (Z.not rfl)
          case q2x0_21 => exact fun _ => Z.on (Z.pick rfl rfl)
          case q2x0_22 => exact fun _ => Z.pick rfl rfl
          refine CH.nil <| ?_
          simp only [app, finL]
          refine UQ.then <| S.cF rfl rfl <| UW.skip <| UQ.blockN <| UQ.then <| S.rg <| Q.mv rfl <| S.qu (Z.add (r := ((j + 1 : Nat) : Int)) rfl rfl (IntWalk.i64_in _ (by omega))) <| Q.as rfl <| US.nil <| ?_
          refine S.back _ ⟨rfl, rfl, trivial⟩ (.refl _) ?_ (by omega)
          focus (exact ⟨by omega, good hok⟩; done)
        | false =>
          have hL2 : (!(lessB (ks.getD (j - 1) ⟨#[]⟩) ks[j])) = true := by rw [hL]; rfl
          have hb := bad (by
            unfold lessB at hL
            unfold okKey; rw [hge, hL, decide_eq_false (by omega : ¬ j = 0)]; simp)
          refine S.sq <| Q.rg <| Q.mv rfl <| Q.mv rfl <| S.qu (Z.lns sl24 rfl) <| Q.bi rfl rfl rfl <| Q.nt <| S.cT rfl (decide_eq_true (by omega)) <| UW.skip <| UQ.then <| S.sq <| UW.block <| S.sq <| ?_
          refine' UW.draw' (by kernel_rfl) [0, 0, 3, 7, 15, 31, 63, 127, 255, 511, 1023, 1023, 3071, 8191, 16383, 1023, 1023, 99327, 230399, 524287, 1048575, 2097151, 4194303] [some 10, some 11, some 12, some 13, some 14, some 15, some 16, some 17, some 18, some 19, some 20, some 21, some 22, some 23, some 24, some 25, some 26, some 27, some 28, some 29, some 30, some 31, some 32] [some (10, _), some (11, _), some (12, _), some (13, _), some (14, _), some (15, _), some (16, _), some (17, _), some (18, _), some (19, _), some (20, _), some (21, _), some (22, _), some (23, _), some (24, _), some (25, _), some (26, _), some (27, _), some (28, _), some (29, _), some (30, _), some (31, _), some (32, _)] [] [3, 14, 18] rfl (by decide) (by decide) (QAll.free (by decide) rfl rfl ?q3x0_0 (QAll.free (by decide) rfl rfl ?q3x0_1 (QAll.free (by decide) rfl rfl ?q3x0_2 (QAll.held (by decide) rfl rfl ?q3x0_3 (QAll.free (by decide) rfl rfl ?q3x0_4 (QAll.free (by decide) rfl rfl ?q3x0_5 (QAll.free (by decide) rfl rfl ?q3x0_6 (QAll.free (by decide) rfl rfl ?q3x0_7 (QAll.free (by decide) rfl rfl ?q3x0_8 (QAll.free (by decide) rfl rfl ?q3x0_9 (QAll.free (by decide) rfl rfl ?q3x0_10 (QAll.free (by decide) rfl rfl ?q3x0_11 (QAll.free (by decide) rfl rfl ?q3x0_12 (QAll.free (by decide) rfl rfl ?q3x0_13 (QAll.held (by decide) rfl rfl ?q3x0_14 (QAll.free (by decide) rfl rfl ?q3x0_15 (QAll.free (by decide) rfl rfl ?q3x0_16 (QAll.free (by decide) rfl rfl ?q3x0_17 (QAll.held (by decide) rfl rfl ?q3x0_18 (QAll.free (by decide) rfl rfl ?q3x0_19 (QAll.free (by decide) rfl rfl ?q3x0_20 (QAll.free (by decide) rfl rfl ?q3x0_21 (QAll.free (by decide) rfl rfl ?q3x0_22 QAll.nil))))))))))))))))))))))) ?q3x0_k
          case q3x0_0 => exact fun _ => Z.mv rfl
          case q3x0_1 => exact fun _ => Z.mv rfl
          case q3x0_2 => exact fun _ => Z.ia sl24 rfl rfl (by omega) (by assumption) (by rfl)
          case q3x0_3 => exact Z.lpc ty9 rfl
          case q3x0_4 => exact fun _ => Z.call rfl rfl (fun _ => checkR_spec' _ (hks _ (List.getElem_mem hlt)) _)
          case q3x0_5 => exact fun _ => Z.tF (Z.bi rfl rfl rfl) (decide_eq_false (by omega))
          case q3x0_6 => exact fun _ => Z.mv rfl
          case q3x0_7 => exact fun _ => Z.on (Z.mv rfl)
          case q3x0_8 => exact fun _ => Z.on (Z.tT (Z.bi rfl rfl rfl) (decide_eq_true (by omega)))
          case q3x0_9 => exact fun _ => Z.on (Z.mv rfl)
          case q3x0_10 => exact fun _ => Z.on (Z.mv rfl)
          case q3x0_11 => exact fun _ => Z.on (Z.mv rfl)
          case q3x0_12 => exact fun _ => Z.on (Z.sub rfl rfl (IntWalk.i64_in _ (by omega)))
          case q3x0_13 => exact fun _ => Z.on (Z.ia sl24 rfl rfl (by omega) (by assumption) (by rfl))
          case q3x0_14 => exact Z.on (Z.lpc ty9 rfl)
          case q3x0_15 => exact fun _ => Z.on (Z.mv rfl)
          case q3x0_16 => exact fun _ => Z.on (Z.mv rfl)
          case q3x0_17 => exact fun _ => Z.on (Z.ia sl24 rfl rfl (by omega) (by assumption) (by rfl))
          case q3x0_18 => exact Z.on (Z.lpc ty9 rfl)
          case q3x0_19 => exact fun _ => Z.on (Z.tF (Z.call rfl rfl (fun _ => lessR_spec _ _ hpb _)) (by assumption))
          case q3x0_20 => exact fun _ => Z.on (Z.not rfl)
          case q3x0_21 => exact fun _ => Z.on (Z.pick rfl rfl)
          case q3x0_22 => exact fun _ => Z.pick rfl rfl
          refine CH.nil <| ?_
          simp only [app, finL]
          refine UQ.then <| S.cT rfl rfl <| Q.rg <| Q.as rfl <| Q.nt <| UW.ret <| UQ.blockR <| UQ.passR <| UQ.passR <| UQ.blockR <| UQ.passR <| S.rtR (fun _ => res_tmp rfl rfl) <| ?_
          focus (rw [hb]; done)
      · have hok : okKey ks j = true := by unfold okKey; rw [hge, decide_eq_true (by omega : j = 0), decide_eq_true (by omega)]; rfl
        refine S.sq <| Q.rg <| Q.mv rfl <| Q.mv rfl <| S.qu (Z.lns sl24 rfl) <| Q.bi rfl rfl rfl <| Q.nt <| S.cT rfl (decide_eq_true (by omega)) <| UW.skip <| UQ.then <| S.sq <| UW.block <| S.sq <| ?_
        refine' UW.draw' (by kernel_rfl) [0, 0, 3, 7, 15, 31, 63, 127, 255, 511, 1023, 1023, 3071, 8191, 16383, 1023, 1023, 99327, 230399, 524287, 1048575, 2097151, 4194303] [some 10, some 11, some 12, some 13, some 14, some 15, some 16, some 17, some 18, some 19, some 20, some 21, some 22, some 23, some 24, some 25, some 26, some 27, some 28, some 29, some 30, some 31, some 32] [some (10, _), some (11, _), some (12, _), some (13, _), some (14, _), some (15, _), some (16, _), some (17, _), some (18, _), some (19, _), some (20, _), some (21, _), some (22, _), some (23, _), some (24, _), some (25, _), some (26, _), some (27, _), some (28, _), some (29, _), some (30, _), some (31, _), some (32, _)] [] [3, 14, 18] rfl (by decide) (by decide) (QAll.free (by decide) rfl rfl ?q4x0_0 (QAll.free (by decide) rfl rfl ?q4x0_1 (QAll.free (by decide) rfl rfl ?q4x0_2 (QAll.held (by decide) rfl rfl ?q4x0_3 (QAll.free (by decide) rfl rfl ?q4x0_4 (QAll.free (by decide) rfl rfl ?q4x0_5 (QAll.free (by decide) rfl rfl ?q4x0_6 (QAll.free (by decide) rfl rfl ?q4x0_7 (QAll.free (by decide) rfl rfl ?q4x0_8 (QAll.free (by decide) rfl rfl ?q4x0_9 (QAll.free (by decide) rfl rfl ?q4x0_10 (QAll.free (by decide) rfl rfl ?q4x0_11 (QAll.free (by decide) rfl rfl ?q4x0_12 (QAll.free (by decide) rfl rfl ?q4x0_13 (QAll.held (by decide) rfl rfl ?q4x0_14 (QAll.free (by decide) rfl rfl ?q4x0_15 (QAll.free (by decide) rfl rfl ?q4x0_16 (QAll.free (by decide) rfl rfl ?q4x0_17 (QAll.held (by decide) rfl rfl ?q4x0_18 (QAll.free (by decide) rfl rfl ?q4x0_19 (QAll.free (by decide) rfl rfl ?q4x0_20 (QAll.free (by decide) rfl rfl ?q4x0_21 (QAll.free (by decide) rfl rfl ?q4x0_22 QAll.nil))))))))))))))))))))))) ?q4x0_k
        case q4x0_0 => exact fun _ => Z.mv rfl
        case q4x0_1 => exact fun _ => Z.mv rfl
        case q4x0_2 => exact fun _ => Z.ia sl24 rfl rfl (by omega) (by assumption) (by rfl)
        case q4x0_3 => exact Z.lpc ty9 rfl
        case q4x0_4 => exact fun _ => Z.call rfl rfl (fun _ => checkR_spec' _ (hks _ (List.getElem_mem hlt)) _)
        case q4x0_5 => exact fun _ => Z.tF (Z.bi rfl rfl rfl) (decide_eq_false (by omega))
        case q4x0_6 => exact fun _ => Z.mv rfl
        case q4x0_7 => exact fun _ => Z.on (Z.mv rfl)
        case q4x0_8 => exact fun _ => Z.on (Z.tF (Z.bi rfl rfl rfl) (decide_eq_false (by omega)))
        case q4x0_9 => exact fun _ => Z.on (Z.mv rfl)
        case q4x0_10 => exact fun _ => Z.of
        case q4x0_11 => exact fun _ => Z.of
        case q4x0_12 => exact fun _ => Z.of
        case q4x0_13 => exact fun _ => Z.of
        case q4x0_14 => exact Z.of
        case q4x0_15 => exact fun _ => Z.of
        case q4x0_16 => exact fun _ => Z.of
        case q4x0_17 => exact fun _ => Z.of
        case q4x0_18 => exact Z.of
        case q4x0_19 => exact fun _ => Z.of
        case q4x0_20 => exact fun _ => Z.of
        case q4x0_21 => exact fun _ => Z.on (Z.pick rfl rfl)
        case q4x0_22 => exact fun _ => Z.pick rfl rfl
        refine CH.nil <| ?_
        simp only [app, finL]
        refine UQ.then <| S.cF rfl rfl <| UW.skip <| UQ.blockN <| UQ.then <| S.rg <| Q.mv rfl <| S.qu (Z.add (r := ((j + 1 : Nat) : Int)) rfl rfl (IntWalk.i64_in _ (by omega))) <| Q.as rfl <| US.nil <| ?_
        refine S.back _ ⟨rfl, rfl, trivial⟩ (.refl _) ?_ (by omega)
        focus (exact ⟨by omega, good hok⟩; done)
  · refine S.sq <| Q.rg <| Q.mv rfl <| Q.mv rfl <| S.qu (Z.lns sl24 rfl) <| Q.bi rfl rfl rfl <| Q.nt <| S.cF rfl (decide_eq_false (by omega)) <| UW.exit <| UQ.pass <| UQ.pass <| UQ.here <| UQ.then <| Q.rg <| Q.as rfl <| Q.nt <| UW.ret <| S.rtR (fun _ => res_tmp rfl rfl) <| ?_
    have : keysOk ks = true := by
      unfold keysOk
      rw [List.all_eq_true]
      exact fun i hi => hjj i (by have := List.mem_range.1 hi; omega)
    rw [this]
end Go.Proofs.Ytopaddebalfoeaa
