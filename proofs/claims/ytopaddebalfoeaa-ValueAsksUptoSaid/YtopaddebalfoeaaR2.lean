/- The document's answers of layer 2: what they compute. -/
import Derived.Test.YtopaddebalfoeaaR1
namespace Go.Proofs.Ytopaddebalfoeaa
open Go Go.RowKit Go.Eng
set_option linter.unusedSimpArgs false
set_option linter.unusedVariables false
set_option maxRecDepth 100000
theorem sameV_vs {k n k' n' : Int} {t t' : ByteArray} {ks ks' : List ByteArray} {vs vs' : List V} (h : sameV (.mk k n t ks vs) (.mk k' n' t' ks' vs') = true) : samesV vs vs' = true := by
  rw [sameV] at h
  simp only [Bool.and_eq_true] at h
  exact h.2.2.2.2
theorem sameR_spec (x : V) (hx : Fits x) : ∀ (y : V) (H : Hp), ACall Try.prog 27 [.agg (encV x), .agg (encV y)] H (IsR H (.v (.bool (sameV x y)))) := by
  induction hx with
  | mk k n t ks vs h1 h2 h ih =>
  rintro ⟨k', n', t', ks', vs'⟩ H
  have hvl := encVs_len vs
  have hvl' := encVs_len vs'
  refine UCall (n := 61) (H0 := H) (objs := []) Try.func27 (by kernel_rfl) rfl (by rw [Try.ntmps27]; rfl) .nil <| ?_
  refine Q.rg <| S.dd <| D.box rfl rfl rfl fun p2 => S.dd <| D.box rfl rfl rfl fun p3 => Q.as rfl <| Q.nt <| S.sq <| Q.rg <| Q.fa f27_0 rfl <| Q.lc 1 ty3 rfl rfl rfl <| Q.fa f27_0 rfl <| Q.lc 0 ty3 rfl rfl rfl <| Q.bi rfl rfl rfl <| Q.mv rfl <| ?_
  refine S.tO 11 (fun hc11 => ?_) (fun hc11 => ?_)
  refine Q.of <| Q.of <| Q.of <| Q.of <| Q.of <| Q.pk rfl rfl <| Q.mv rfl <| Q.of <| Q.of <| Q.of <| Q.of <| Q.of <| Q.pk rfl rfl <| Q.mv rfl <| Q.of <| Q.of <| Q.of <| Q.of <| Q.of <| Q.of <| Q.pk rfl rfl <| Q.mv rfl <| Q.of <| Q.of <| Q.of <| Q.of <| Q.of <| Q.of <| Q.of <| Q.pk rfl rfl <| Q.nt <| S.cT rfl rfl <| Q.rg <| Q.as rfl <| Q.nt <| UW.ret <| UQ.passR <| S.rtR (fun _ => res_tmp rfl rfl) <| ?_
  focus (rw [sameV]; simp_all [eqT]; done)
  refine Q.on (Z.fa f27_1 rfl) <| Q.on (Z.ldc 1 ty2 rfl rfl rfl) <| Q.on (Z.fa f27_1 rfl) <| Q.on (Z.ldc 0 ty2 rfl rfl rfl) <| Q.on (Z.bi rfl rfl rfl) <| Q.pk rfl rfl <| Q.mv rfl <| ?_
  refine S.tO 18 (fun hc18 => ?_) (fun hc18 => ?_)
  refine Q.of <| Q.of <| Q.of <| Q.of <| Q.of <| Q.pk rfl rfl <| Q.mv rfl <| Q.of <| Q.of <| Q.of <| Q.of <| Q.of <| Q.of <| Q.pk rfl rfl <| Q.mv rfl <| Q.of <| Q.of <| Q.of <| Q.of <| Q.of <| Q.of <| Q.of <| Q.pk rfl rfl <| Q.nt <| S.cT rfl rfl <| Q.rg <| Q.as rfl <| Q.nt <| UW.ret <| UQ.passR <| S.rtR (fun _ => res_tmp rfl rfl) <| ?_
  focus (rw [sameV]; simp_all [eqT]; done)
  refine Q.on (Z.fa f27_2 rfl) <| Q.on (Z.ldc 1 ty9 rfl rfl rfl) <| Q.on (Z.fa f27_2 rfl) <| Q.on (Z.ldc 0 ty9 rfl rfl rfl) <| Q.on (Z.bs rfl rfl rfl) <| Q.pk rfl rfl <| Q.mv rfl <| ?_
  refine S.tO 25 (fun hc25 => ?_) (fun hc25 => ?_)
  refine Q.of <| Q.of <| Q.of <| Q.of <| Q.of <| Q.of <| Q.pk rfl rfl <| Q.mv rfl <| Q.of <| Q.of <| Q.of <| Q.of <| Q.of <| Q.of <| Q.of <| Q.pk rfl rfl <| Q.nt <| S.cT rfl rfl <| Q.rg <| Q.as rfl <| Q.nt <| UW.ret <| UQ.passR <| S.rtR (fun _ => res_tmp rfl rfl) <| ?_
  focus (rw [sameV]; simp_all [eqT]; done)
  refine Q.on (Z.fa f27_3 rfl) <| Q.on (Z.ldc 1 ty24 rfl rfl rfl) <| Q.on (Z.fa f27_3 rfl) <| Q.on (Z.ldc 0 ty24 rfl rfl rfl) <| Q.on (Z.call rfl rfl (fun _ => stringsR_spec _ _ h1 _)) <| Q.on (Z.not rfl) <| Q.pk rfl rfl <| Q.mv rfl <| ?_
  refine S.tB 33 (fun hc33 => ?_) (fun hc33 => ?_)
  refine Q.of <| Q.of <| Q.of <| Q.of <| Q.of <| Q.of <| Q.of <| Q.pk rfl rfl <| Q.nt <| S.cT rfl rfl <| Q.rg <| Q.as rfl <| Q.nt <| UW.ret <| UQ.passR <| S.rtR (fun _ => res_tmp rfl rfl) <| ?_
  focus (rw [sameV]; simp_all [eqT]; done)
  refine Q.on (Z.fa f27_4 rfl) <| Q.on (Z.ldc 1 ty25 rfl rfl rfl) <| Q.on (Z.lns sl25 rfl) <| Q.on (Z.fa f27_4 rfl) <| Q.on (Z.ldc 0 ty25 rfl rfl rfl) <| Q.on (Z.lns sl25 rfl) <| Q.on (Z.bi rfl rfl rfl) <| Q.pk rfl rfl <| Q.nt <| ?_
  refine S.cO rfl (fun hc41 => ?_) (fun hc41 => ?_)
  refine Q.rg <| Q.as rfl <| Q.nt <| UW.ret <| UQ.passR <| S.rtR (fun _ => res_tmp rfl rfl) <| ?_
  focus (rw [sameV, samesV_eq, eqBy_len (f := sameV) (l := vs) (r := vs') (by omega)]; simp; done)
  refine UW.skip <| UQ.then <| S.sq <| Q.rg <| Q.as rfl <| Q.nt <| UW.block <| ?_
  have hlen : vs.length = vs'.length := by omega
  refine S.loop (fun j : Nat => [(5, .v (.int .i64 (j : Int))), (2, .ptr p2 0), (3, .ptr p3 0)]) (fun _ => [(p3, .box 27 (encV (.mk k' n' t' ks' vs'))), (p2, .box 27 (encV (.mk k n t ks vs)))]) (fun j => j ≤ vs.length ∧ ∀ (i : Nat) (h : i < vs.length) (h' : i < vs'.length), i < j → sameV vs[i] vs'[i] = true) (fun j => vs.length - j) 0 ⟨Nat.zero_le _, fun i _ _ h => absurd h (by omega)⟩ ⟨rfl, rfl, rfl, trivial⟩ (.refl _) <| ?_
  rintro j ⟨hj, hjj⟩
  by_cases hlt : j < vs.length
  · have hgl := encVs_get vs j hlt
    have hgr := encVs_get vs' j (by omega)
    have hrec := fun H => ih _ (List.getElem_mem hlt) (vs'[j]'(by omega)) H
    focus
      refine S.sq <| Q.rg <| Q.mv rfl <| Q.fa f27_4 rfl <| Q.lc 1 ty25 rfl rfl rfl <| S.qu (Z.lns sl25 rfl) <| Q.bi rfl rfl rfl <| Q.nt <| S.cT rfl (decide_eq_true (by omega)) <| UW.skip <| UQ.then <| S.sq <| UW.block <| S.sq <| ?_
      refine' UW.draw' (by kernel_rfl) [0, 1, 0, 7, 15, 0, 32, 0, 224, 480, 1023, 2047] [some 49, some 50, some 51, some 52, some 53, some 54, some 55, some 56, some 57, some 58, some 59, some 60] [some (49, _), some (50, _), some (51, _), some (52, _), some (53, _), some (54, _), some (55, _), some (56, _), some (57, _), some (58, _), some (59, _), some (60, _)] [] [1, 4, 6, 9] rfl (by decide) (by decide) (QAll.free (by decide) rfl rfl ?q1x0_0 (QAll.held (by decide) rfl rfl ?q1x0_1 (QAll.free (by decide) rfl rfl ?q1x0_2 (QAll.free (by decide) rfl rfl ?q1x0_3 (QAll.held (by decide) rfl rfl ?q1x0_4 (QAll.free (by decide) rfl rfl ?q1x0_5 (QAll.held (by decide) rfl rfl ?q1x0_6 (QAll.free (by decide) rfl rfl ?q1x0_7 (QAll.free (by decide) rfl rfl ?q1x0_8 (QAll.held (by decide) rfl rfl ?q1x0_9 (QAll.free (by decide) rfl rfl ?q1x0_10 (QAll.free (by decide) rfl rfl ?q1x0_11 QAll.nil)))))))))))) ?q1x0_k
      case q1x0_0 => exact fun _ => Z.fa f27_4 rfl
      case q1x0_1 => exact Z.ldc 1 ty25 rfl rfl rfl
      case q1x0_2 => exact fun _ => Z.mv rfl
      case q1x0_3 => exact fun _ => Z.ia sl25 rfl rfl (by omega) (by assumption) (by exact encV_len _)
      case q1x0_4 => exact Z.lpa ty27 rfl (encV_len _)
      case q1x0_5 => exact fun _ => Z.fa f27_4 rfl
      case q1x0_6 => exact Z.ldc 0 ty25 rfl rfl rfl
      case q1x0_7 => exact fun _ => Z.mv rfl
      case q1x0_8 => exact fun _ => Z.ia sl25 rfl rfl (by omega) (by assumption) (by exact encV_len _)
      case q1x0_9 => exact Z.lpa ty27 rfl (encV_len _)
      case q1x0_10 => exact fun _ => Z.call rfl rfl hrec
      case q1x0_11 => exact fun _ => Z.not rfl
      refine CH.nil <| ?_
      simp only [app, finL]
      refine UQ.then <| ?_
      refine S.cB rfl (fun hc60 => ?_) (fun hc60 => ?_)
      refine Q.rg <| Q.as rfl <| Q.nt <| UW.ret <| UQ.blockR <| UQ.passR <| UQ.passR <| UQ.blockR <| UQ.passR <| S.rtR (fun _ => res_tmp rfl rfl) <| ?_
      rotate_left
      refine UW.skip <| UQ.blockN <| UQ.then <| S.rg <| Q.mv rfl <| S.qu (Z.add (r := ((j + 1 : Nat) : Int)) rfl rfl (IntWalk.i64_in _ (by omega))) <| Q.as rfl <| US.nil <| ?_
      refine S.back _ ⟨rfl, rfl, rfl, trivial⟩ (.refl _) ?_ (by omega)
      rotate_left
    · rw [sameV, samesV_eq, eqBy_at j hlt (by omega) (by simpa using hc60)]; simp
    · refine ⟨by omega, fun i h3 h4 h5 => ?_⟩
      by_cases hij : i = j
      · subst hij; simpa using hc60
      · exact hjj i h3 h4 (by omega)
  · refine S.sq <| Q.rg <| Q.mv rfl <| Q.fa f27_4 rfl <| Q.lc 1 ty25 rfl rfl rfl <| S.qu (Z.lns sl25 rfl) <| Q.bi rfl rfl rfl <| Q.nt <| S.cF rfl (decide_eq_false (by omega)) <| UW.exit <| UQ.pass <| UQ.pass <| UQ.here <| UQ.then <| Q.rg <| Q.as rfl <| Q.nt <| UW.ret <| S.rtR (fun _ => res_tmp rfl rfl) <| ?_
    have e1 : eqT t t' = true := by unfold eqT; simpa using hc25
    rw [sameV, samesV_eq, eqBy_true hlen (fun i h1 h2 => hjj i h1 h2 (by omega)), hc11, hc18, e1, show eqBy eqT ks ks' = true from by simpa using hc33]; simp
/-! how deep -/
theorem foldmax_snoc (l : List Int) (a b : Int) : (l ++ [b]).foldl (fun m c => if c > m then c else m) a = (if b > l.foldl (fun m c => if c > m then c else m) a then b else l.foldl (fun m c => if c > m then c else m) a) := by rw [List.foldl_append]; rfl
def maxTo (vs : List V) (j : Nat) : Int := ((vs.map deepV).take j).foldl (fun m c => if c > m then c else m) 0
theorem maxTo_succ (vs : List V) (j : Nat) (h : j < vs.length) : maxTo vs (j + 1) = if deepV vs[j] > maxTo vs j then deepV vs[j] else maxTo vs j := by
  unfold maxTo
  rw [List.take_add_one, List.getElem?_map, List.getElem?_eq_getElem h]
  exact foldmax_snoc _ _ _
theorem maxL_zero (l : List Int) (h : ∀ c ∈ l, 0 ≤ c) : maxL (l ++ [0]) = l.foldl (fun m c => if c > m then c else m) 0 := by
  have e1 : 0 ≤ l.foldl (fun m c => if c > m then c else m) 0 := le_foldmax.1
  have e2 : l.foldl (fun m c => if c > m then c else m) 0 ≤ maxL (l ++ [0]) := foldmax_le (le_maxL (by simp)) (fun c hc => le_maxL (by simp [hc]))
  have e3 : maxL (l ++ [0]) ≤ l.foldl (fun m c => if c > m then c else m) 0 := by
    cases l with
    | nil => simp [maxL]
    | cons a r =>
      have h1 := le_foldmax (r := a :: r) (b := 0)
      exact foldmax_le (h1.2 a (by simp)) (fun c hc => by
        rcases List.mem_append.1 hc with h2 | h2
        · exact h1.2 c (by simp [h2])
        · simp at h2; subst h2; exact e1)
  omega
theorem maxTo_all (vs : List V) : maxTo vs vs.length = maxL (vs.map deepV ++ [0]) := by
  unfold maxTo
  rw [List.take_of_length_le (by simp), maxL_zero]
  intro c hc
  obtain ⟨x, _, rfl⟩ := List.mem_map.1 hc
  exact deepV_nonneg x
theorem maxTo_bd (vs : List V) (m : Int) (hm : 0 ≤ m) (h : ∀ x ∈ vs, deepV x ≤ m) (j : Nat) : 0 ≤ maxTo vs j ∧ maxTo vs j ≤ m := by
  unfold maxTo
  exact ⟨le_foldmax.1, foldmax_le hm (fun c hc => by
    obtain ⟨x, hx, rfl⟩ := List.mem_map.1 (List.mem_of_mem_take hc)
    exact h x hx)⟩
theorem deepR_spec (x : V) (hx : Fits x) : ∀ (hd : deepV x ≤ 1000000) (H : Hp), ACall Try.prog 63 [.agg (encV x)] H (IsR H (.v (.int .i64 (deepV x)))) := by
  induction hx with
  | mk k n t ks vs h1 h2 h ih =>
  intro hd H
  have hvl := encVs_len vs
  by_cases hk : k = 4 ∨ k = 5
  · have hdq : deepV (.mk k n t ks vs) = 1 + maxL (vs.map deepV ++ [0]) := by rw [deepV, if_pos hk, deepsV_eq]
    have hlt : ∀ x ∈ vs, deepV x ≤ 1000000 := fun x hx => by have := deepV_lt (n := n) (t := t) (ks := ks) hk hx; omega
    have hall := maxTo_all vs
    refine UCall (n := 30) (H0 := H) (objs := []) Try.func63 (by kernel_rfl) rfl (by rw [Try.ntmps63]; rfl) .nil <| ?_
    refine Q.rg <| S.dd <| D.box rfl rfl rfl fun p1 => Q.as rfl <| Q.nt <| ?_
    refine S.cut [(1, .ptr p1 0)] [(p1, .box 27 (encV (.mk k n t ks vs)))] True ?_ (fun _ => ?_)
    refine Q.rg <| Q.fa f27_0 rfl <| Q.lc 0 ty3 rfl rfl rfl <| Q.bi rfl rfl rfl <| Q.mv rfl <| ?_
    refine S.tO 8 (fun hc8 => ?_) (fun hc8 => ?_)
    refine Q.on (Z.fa f27_0 rfl) <| Q.on (Z.ldc 0 ty3 rfl rfl rfl) <| Q.on (Z.bi rfl rfl rfl) <| Q.pk rfl rfl <| Q.nt <| S.cF rfl (bne_f (by omega)) <| UW.skip <| ?_
    refine S.fin ⟨rfl, trivial⟩ (.refl _) trivial
    refine Q.of <| Q.of <| Q.of <| Q.pk rfl rfl <| Q.nt <| S.cF rfl rfl <| UW.skip <| ?_
    refine S.fin ⟨rfl, trivial⟩ (.refl _) trivial
    refine Q.rg <| Q.as rfl <| Q.nt <| S.sq <| Q.rg <| Q.as rfl <| Q.nt <| UW.block <| S.loop (fun j : Nat => [(4, .v (.int .i64 (j : Int))), (3, .v (.int .i64 (maxTo vs j))), (1, .ptr p1 0)]) (fun _ => [(p1, .box 27 (encV (.mk k n t ks vs)))]) (fun j => j ≤ vs.length) (fun j => vs.length - j) 0 (Nat.zero_le _) ⟨rfl, rfl, rfl, trivial⟩ (.refl _) <| ?_
    intro j hj
    have hb := maxTo_bd vs 1000000 (by omega) hlt j
    by_cases hjl : j < vs.length
    · have hgl := encVs_get vs j hjl
      have hrec := fun H => ih _ (List.getElem_mem hjl) (hlt _ (List.getElem_mem hjl)) H
      refine S.sq <| Q.rg <| Q.mv rfl <| Q.fa f27_4 rfl <| Q.lc 0 ty25 rfl rfl rfl <| S.qu (Z.lns sl25 rfl) <| Q.bi rfl rfl rfl <| Q.nt <| S.cT rfl (decide_eq_true (by omega)) <| UW.skip <| UQ.then <| S.sq <| UW.block <| S.rg <| Q.mv rfl <| Q.fa f27_4 rfl <| Q.lc 0 ty25 rfl rfl rfl <| Q.mv rfl <| S.qu (Z.ia sl25 rfl rfl (by omega) (by assumption) (by exact encV_len _)) <| ?_
      refine S.qu (Z.lpa ty27 rfl (encV_len _)) <| S.qu (Z.call rfl rfl hrec) <| S.qu (Z.eq (Z.max rfl rfl) (by rw [← maxTo_succ vs j hjl])) <| ?_
      refine Q.as rfl <| US.nil <| UQ.blockN <| UQ.then <| S.rg <| Q.mv rfl <| S.qu (Z.add (r := ((j + 1 : Nat) : Int)) rfl rfl (IntWalk.i64_in _ (by omega))) <| Q.as rfl <| US.nil <| ?_
      refine S.back _ ⟨rfl, rfl, rfl, trivial⟩ (.refl _) (by omega) (by omega)
    · have hjl2 : j = vs.length := by omega
      refine S.sq <| Q.rg <| Q.mv rfl <| Q.fa f27_4 rfl <| Q.lc 0 ty25 rfl rfl rfl <| S.qu (Z.lns sl25 rfl) <| Q.bi rfl rfl rfl <| Q.nt <| S.cF rfl (decide_eq_false (by omega)) <| UW.exit <| UQ.pass <| UQ.pass <| UQ.here <| UQ.then <| Q.rg <| Q.mv rfl <| S.qu (Z.add rfl rfl (IntWalk.i64_in _ (by omega))) <| Q.as rfl <| Q.nt <| UW.ret <| S.rtR (fun _ => res_tmp rfl rfl) <| ?_
      focus (rw [hdq, ← hall, hjl2]; congr 2; omega; done)
  · have hdq : deepV (.mk k n t ks vs) = 0 := by rw [deepV, if_neg hk]
    refine UCall (n := 30) (H0 := H) (objs := []) Try.func63 (by kernel_rfl) rfl (by rw [Try.ntmps63]; rfl) .nil <| ?_
    focus
      refine Q.rg <| S.dd <| D.box rfl rfl rfl fun p1 => Q.as rfl <| Q.nt <| S.sq <| Q.rg <| Q.fa f27_0 rfl <| Q.lc 0 ty3 rfl rfl rfl <| Q.bi rfl rfl rfl <| Q.mv rfl <| ?_
      refine S.tO 8 (fun hc8 => ?_) (fun hc8 => ?_)
      rotate_left
      omega
      refine Q.on (Z.fa f27_0 rfl) <| Q.on (Z.ldc 0 ty3 rfl rfl rfl) <| Q.on (Z.bi rfl rfl rfl) <| Q.pk rfl rfl <| Q.nt <| S.cT rfl (bne_t (by omega)) <| Q.rg <| Q.as rfl <| Q.nt <| UW.ret <| UQ.passR <| S.rtR (fun _ => res_tmp rfl rfl) <| ?_
      focus (rw [hdq]; done)
end Go.Proofs.Ytopaddebalfoeaa
