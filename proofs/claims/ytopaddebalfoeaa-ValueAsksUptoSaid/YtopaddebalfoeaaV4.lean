/- Depth, runes, order, numbers. -/
import Derived.Test.YtopaddebalfoeaaV3
namespace Go.Proofs.Ytopaddebalfoeaa
open Go Go.RowKit Go.Eng
set_option linter.unusedSimpArgs false
set_option linter.unusedVariables false
def ints (l : List Int) : AV := .sl (l.map encI)
theorem ints_sz (l : List Int) : ∀ cs ∈ l.map encI, cs.length = 1 := by
  intro cs h; obtain ⟨s, _, rfl⟩ := List.mem_map.1 h; rfl
theorem ints_get (l : List Int) (k : Nat) (h : k < l.length) : (l.map encI)[((k : Nat) : Int).toNat]? = some (encI l[k]) := by rw [Int.toNat_natCast, List.getElem?_map, List.getElem?_eq_getElem h]; rfl
theorem ints_snoc {α : Type} (g : α → Int) (l : List α) (k : Nat) (h : k < l.length) : ((l.map g).map encI).take k ++ [encI (g l[k])] = ((l.map g).map encI).take (k + 1) := by
  rw [List.take_add_one, List.getElem?_map, List.getElem?_map, List.getElem?_eq_getElem h]; rfl
theorem eachInt_spec (l : List V) (f : Nat) (g : V → Int) (hl : l.length ≤ 1000000) (hc : ∀ x ∈ l, ∀ H, ACall Try.prog f [.agg (encV x)] H (IsR H (.v (.int .i64 (g x))))) (H : Hp) :
    ACall Try.prog 45 [.sl (encVs l), .clo f []] H (NewRow H 3 1 ((l.map g).map encI)) := by
  refine UCall (n := 22) (H0 := H) (objs := []) Try.func45 (by kernel_rfl) rfl (by rw [Try.ntmps45]; rfl) .nil <| ?_
  refine Q.rg <| Q.as rfl <| Q.nt <| Q.rg <| Q.as rfl <| US.nilOwn 5 3 1 (by decide) rfl fun i0 => US.nil <| UQ.then <| UW.seq <| Q.rg <| Q.mv rfl <| US.len_sl rfl (by decide) rfl rfl sl25 rfl <| Q.mv rfl <| Q.nt <| UW.block <| UW.loop (fun p : Nat × Nat => [(10, .v (.int .i64 (p.1 : Int))), (5, .own p.2 0 p.1 1), (8, .sl (encVs l)), (9, .v (.int .i64 ((encVs l).length : Int))), (1, .clo f [])]) (fun p => [(p.2, .row 3 1 (((l.map g).map encI).take p.1))]) (fun p => p.1 ≤ l.length) (fun p => l.length - p.1) (0, i0) (Nat.zero_le _) ⟨rfl, rfl, rfl, rfl, rfl, trivial⟩ (.refl _) <| ?_
  rintro ⟨k, id⟩ hk
  simp only at hk
  have hll := encVs_len l
  have hgl : ((l.map g).map encI).length = l.length := by simp
  refine Q.rg <| Q.bi rfl rfl rfl <| Q.nt <| UW.seq <| ?_
  refine UW.cond rfl (fun h => ?_) (fun h => ?_)
  · have h := of_decide_eq_true h
    have hlt : k < l.length := by omega
    refine UW.skip <| UQ.then <| UW.seq <| UW.block <| Q.rg <| US.indexAddr_sl rfl (by decide) rfl rfl sl25 rfl rfl (by omega) (encVs_get l k hlt) (encV_len _) <| US.load_rp_agg rfl (by decide) rfl rfl rfl ty27 (by exact encV_len _) <| ?_
    refine US.allocN rfl (by decide) rfl rfl z27 rfl rfl rfl rfl fun p7 => US.st_whole rfl rfl rfl ty27 rfl (k := 0) rfl (by rfl) rfl rfl (by exact encV_cell _) (by exact encV_len _) rfl <| ?_
    refine Q.nt <| UW.region <| Q.mv rfl <| Q.mv rfl <| US.ld_whole rfl (by decide) rfl rfl ty27 rfl (k := 0) rfl (by exact encV_len _) <| ?_
    refine US.call_pure rfl (by decide) rfl rfl rfl rfl (fun _ => hc _ (List.getElem_mem hlt) _) <| US.lit_sl rfl (by decide) rfl rfl row55 (by decide) rfl rfl rfl (by exact lit_ok rfl) <| ?_
    refine US.append_own rfl (by decide) rfl rfl row55 rfl (k := 1) rfl (by rw [List.length_take]; omega) rfl (SrcO.sl (fun cs h => by cases List.mem_singleton.1 h; rfl)) (by (simp; omega)) (Eq.trans (by rw [List.take_take, Nat.min_self]; rfl) (ints_snoc g l k hlt)) fun p19 => ?_
    refine Q.as rfl <| US.nil <| UQ.blockN <| UQ.then <| UW.region <| US.add rfl (by decide) rfl rfl rfl rfl (IntWalk.i64_in _ (by omega)) <| Q.mv rfl <| ?_
    exact US.round (a' := (k + 1, p19)) (by simp only; omega) (by simp only; omega) ⟨rfl, rfl, rfl, rfl, rfl, trivial⟩ (by simp)
  · have h := of_decide_eq_false h
    have hkl : k = l.length := by simp only at h; omega
    refine UW.exit <| UQ.pass <| UQ.pass <| UQ.here <| UQ.then <| Q.rg <| Q.mv rfl <| Q.as rfl <| Q.nt <| UW.ret <| retR [(id, _)] (fun _ => res_tmp rfl rfl) (.refl _) fun hd => ?_
    exact ⟨_, hd, rfl, id, by rw [hgl, hkl], by rw [hkl, ← hgl, List.take_length]⟩
/-- The greatest of a list that has a first. -/
def maxL : List Int → Int
  | [] => 0
  | a :: r => r.foldl (fun m c => if c > m then c else m) a
theorem max_spec (l : List Int) (hl : l.length ≤ 1000001) (h1 : 1 ≤ l.length) (H : Hp) :
    ACall Try.prog 44 [ints l] H (IsR H (.v (.int .i64 (maxL l)))) := by
  obtain ⟨a, r, rfl⟩ : ∃ a r, l = a :: r := by cases l with | nil => simp at h1 | cons a r => exact ⟨a, r, rfl⟩
  have hmap : ((a :: r).map encI).length = r.length + 1 := by simp
  have hn : ¬ (((a :: r).map encI).length : Int) < 1 := by omega
  refine UCall (n := 25) (H0 := H) (objs := []) Try.func44 (by kernel_rfl) rfl (by rw [Try.ntmps44]; rfl) .nil <| ?_
  refine Q.rg <| Q.as rfl <| Q.nt <| UW.seq <| Q.rg <| Q.mv rfl <| US.len_sl rfl (by decide) rfl rfl sl55 rfl <| US.bin_int rfl (by decide) rfl rfl rfl rfl (r := .bool false) (by simp [iop]; omega) <| ?_
  refine Q.nt <| UW.cond rfl (fun h => absurd h (by simp)) fun _ => ?_
  refine UW.skip <| UQ.then <| Q.rg <| Q.mv rfl <| US.indexAddr_sl rfl (by decide) rfl rfl sl55 rfl rfl (by omega) rfl rfl <| US.load_rp_cell rfl (by decide) rfl rfl rfl ty3 <| Q.as rfl <| Q.nt <| UW.seq <| Q.rg <| Q.as rfl <| Q.nt <| UW.block <| UW.loop (fun k : Nat => [(4, .v (.int .i64 ((k + 1 : Nat) : Int))), (3, .v (.int .i64 ((r.take k).foldl (fun m c => if c > m then c else m) a))), (0, ints (a :: r))]) (fun _ => []) (fun k => k ≤ r.length) (fun k => r.length - k) 0 (Nat.zero_le _) ⟨rfl, rfl, rfl, trivial⟩ (.refl _) <| ?_
  intro k hk
  have hrl : r.length ≤ 1000000 := by simpa using hl
  refine UW.seq <| Q.rg <| Q.mv rfl <| Q.mv rfl <| US.len_sl rfl (by decide) rfl rfl sl55 rfl <| Q.bi rfl rfl rfl <| Q.nt <| ?_
  refine UW.cond rfl (fun h => ?_) (fun h => ?_)
  · have h := of_decide_eq_true h
    have hlt : k < r.length := by omega
    refine UW.skip <| UQ.then <| UW.seq <| UW.block <| UW.region <| Q.mv rfl <| Q.mv rfl <| Q.mv rfl <| US.indexAddr_sl rfl (by decide) rfl rfl sl55 rfl rfl (by omega) (ints_get (a :: r) (k + 1) (by simp; omega)) rfl <| ?_
    refine US.load_rp_cell rfl (by decide) rfl rfl rfl ty3 <| US.max2 rfl (by decide) rfl rfl rfl rfl <| Q.as rfl <| US.nil <| UQ.blockN <| UQ.then <| UW.region <| Q.mv rfl <| US.add rfl (by decide) rfl rfl rfl rfl (r := ((k + 1 + 1 : Nat) : Int)) (IntWalk.i64_in _ (by omega)) <| Q.as rfl <| ?_
    have e : (r.take (k + 1)).foldl (fun m c => if c > m then c else m) a = (if r[k] > (r.take k).foldl (fun m c => if c > m then c else m) a then r[k] else (r.take k).foldl (fun m c => if c > m then c else m) a) := by
      rw [List.take_add_one, List.getElem?_eq_getElem hlt, Option.toList_some, List.foldl_append]
      rfl
    exact US.round (a' := k + 1) (by omega) (by omega) ⟨rfl, (by show some _ = some (AV.v (.int .i64 ((r.take (k + 1)).foldl (fun m c => if c > m then c else m) a))); rw [e]; rfl), rfl, trivial⟩ (.refl _)
  · have h := of_decide_eq_false h
    have hkl : k = r.length := by omega
    refine UW.exit <| UQ.pass <| UQ.pass <| UQ.here <| UQ.then <| Q.rg <| Q.mv rfl <| Q.as rfl <| Q.nt <| UW.ret <| ?_
    refine retR [] (fun _ => res_tmp rfl rfl) (.refl _) fun hd => ⟨?_, rfl⟩
    rw [hkl, List.take_length]; rfl
mutual
/-- How deep a value is. -/
def deepV : V → Int
  | .mk k _ _ _ vs => if k = 4 ∨ k = 5 then 1 + maxL (deepsV vs ++ [0]) else 0
def deepsV : List V → List Int
  | [] => []
  | x :: r => deepV x :: deepsV r
end
theorem deepsV_eq : ∀ l : List V, deepsV l = l.map deepV
  | [] => rfl
  | x :: r => by rw [deepsV, deepsV_eq r]; rfl
theorem foldmax_le {a : Int} : ∀ {r : List Int} {b : Int}, b ≤ a → (∀ c ∈ r, c ≤ a) → r.foldl (fun m c => if c > m then c else m) b ≤ a
  | [], _, h, _ => h
  | c :: r, b, h, h2 => by
    simp only [List.foldl_cons]
    refine foldmax_le ?_ (fun c' hc' => h2 c' (by simp [hc']))
    split
    · exact h2 c (by simp)
    · exact h
theorem le_foldmax : ∀ {r : List Int} {b : Int}, b ≤ r.foldl (fun m c => if c > m then c else m) b ∧ ∀ c ∈ r, c ≤ r.foldl (fun m c => if c > m then c else m) b
  | [], _ => ⟨Int.le_refl _, by simp⟩
  | c :: r, b => by
    simp only [List.foldl_cons]
    have ih := le_foldmax (r := r) (b := if c > b then c else b)
    refine ⟨?_, fun c' hc' => ?_⟩
    · refine Int.le_trans ?_ ih.1
      split <;> omega
    · rcases List.mem_cons.1 hc' with rfl | h
      · refine Int.le_trans ?_ ih.1
        split <;> omega
      · exact ih.2 c' h
theorem le_maxL {l : List Int} {c : Int} (h : c ∈ l) : c ≤ maxL l := by
  cases l with
  | nil => simp at h
  | cons a r =>
    rcases List.mem_cons.1 h with rfl | h
    · exact le_foldmax.1
    · exact le_foldmax.2 c h
theorem deepV_nonneg (x : V) : 0 ≤ deepV x := by
  obtain ⟨k, n, t, ks, vs⟩ := x
  unfold deepV
  split
  · have := le_maxL (l := deepsV vs ++ [0]) (c := 0) (by simp)
    omega
  · omega
theorem deepV_lt {k n : Int} {t : ByteArray} {ks : List ByteArray} {vs : List V} {x : V} (h : k = 4 ∨ k = 5) (hx : x ∈ vs) : deepV x < deepV (.mk k n t ks vs) := by
  rw [show deepV (.mk k n t ks vs) = 1 + maxL (deepsV vs ++ [0]) from by rw [deepV, if_pos h]]
  have := le_maxL (l := deepsV vs ++ [0]) (c := deepV x) (by rw [deepsV_eq]; exact List.mem_append_left _ (List.mem_map_of_mem hx))
  omega
theorem deep_spec (x : V) (hx : Fits x) : ∀ (hd : deepV x ≤ 1000000) (H : Hp), ACall Try.prog 20 [.agg (encV x)] H (IsR H (.v (.int .i64 (deepV x)))) := by
  induction hx with
  | mk k n t ks vs h1 h2 h ih =>
  intro hd H
  have hsub : (k = 4 ∨ k = 5) → ∀ x ∈ vs, ∀ H, ACall Try.prog 20 [.agg (encV x)] H (IsR H (.v (.int .i64 (deepV x)))) := fun hk x hx H => ih x hx (by have := deepV_lt (n := n) (t := t) (ks := ks) hk hx; omega) H
  have hdq : (k = 4 ∨ k = 5) → deepV (.mk k n t ks vs) = 1 + maxL (vs.map deepV ++ [0]) := fun hk => by rw [deepV, if_pos hk, deepsV_eq]
  have hnn := deepV_nonneg (.mk k n t ks vs)
  refine UCall (n := 18) (H0 := H) (objs := []) Try.func20 (by kernel_rfl) rfl (by rw [Try.ntmps20]; rfl) .nil <| ?_
  refine Q.rg <| US.box rfl (by decide) rfl rfl rfl rfl (by rfl) fun p1 => ?_
  refine Q.as rfl <| Q.nt <| UW.seq <| Q.rg <| ?_
  by_cases h4 : k = 4
  · have hsub := hsub (.inl h4)
    have hdeq := hdq (.inl h4)
    refine US.fieldAddr rfl (by decide) rfl rfl rfl f27_0 <| Q.lc 0 ty3 rfl rfl rfl <| US.bin_int rfl (by decide) rfl rfl rfl rfl (r := .bool false) (by (simp [iop, sop, h4]; done)) <| ?_
    refine Q.mv rfl <| Q.of <| Q.of <| Q.of <| Q.pk rfl rfl <| Q.nt <| UW.cond rfl (fun h => absurd h (by simp)) fun _ => ?_
    refine UW.skip <| UQ.then <| Q.rg <| US.fieldAddr rfl (by decide) rfl rfl rfl f27_4 <| Q.lc 0 ty25 rfl rfl rfl <| ?_
    refine US.call_new rfl (by decide) rfl rfl rfl rfl (fun _ => eachInt_spec vs _ deepV h2 hsub _) ?_; rintro _ _ ⟨p13, rfl, rfl⟩
    refine US.lit_sl rfl (by decide) rfl rfl row55 (by decide) rfl rfl rfl (by exact lit_ok rfl) <| ?_
    refine US.append_own rfl (by decide) rfl rfl row55 rfl (k := 0) rfl (by omega) rfl (SrcO.sl (fun cs h => by cases List.mem_singleton.1 h; rfl)) (by simp; omega) (rs := (vs.map deepV ++ [0]).map encI) (by rw [List.map_append, List.take_of_length_le (by simp)]; rfl) fun p15 => ?_
    refine US.freeze' 15 (k := 0) rfl rfl (by simp) (rs := (vs.map deepV ++ [0]).map encI) (by rw [List.drop_zero, List.take_of_length_le (by simp)]) <| ?_
    refine US.call_pure rfl (by decide) rfl rfl rfl rfl (fun _ => max_spec (vs.map deepV ++ [0]) (by simp; omega) (by simp) _) <| ?_
    refine US.add rfl (by decide) rfl rfl rfl rfl (r := deepV (.mk k n t ks vs)) (by rw [hdeq]; exact IntWalk.i64_in _ (by omega)) <| ?_
    refine Q.as rfl <| Q.nt <| UW.ret <| ?_
    exact retR [] (fun _ => res_tmp rfl rfl) (by simp) fun hd => ⟨rfl, rfl⟩
  · by_cases h5 : k = 5
    · have hsub := hsub (.inr h5)
      have hdeq := hdq (.inr h5)
      refine US.fieldAddr rfl (by decide) rfl rfl rfl f27_0 <| Q.lc 0 ty3 rfl rfl rfl <| US.bin_int rfl (by decide) rfl rfl rfl rfl (r := .bool true) (by (simp [iop, sop, h4]; done)) <| ?_
      refine Q.mv rfl <| ?_
      (refine US.on rfl rfl (by decide) rfl ?_; refine US.fieldAddr rfl (by decide) rfl rfl rfl f27_0 ?_)
      (refine US.on rfl rfl (by decide) rfl ?_; refine US.ld_cell rfl (by decide) rfl rfl ty3 rfl (k := 0) rfl rfl ?_)
      (refine US.on rfl rfl (by decide) rfl ?_; refine US.bin_int rfl (by decide) rfl rfl rfl rfl (r := .bool false) (by (simp [iop, sop, h5]; done)) ?_)
      refine Q.pk rfl rfl <| Q.nt <| UW.cond rfl (fun h => absurd h (by simp)) fun _ => ?_
      refine UW.skip <| UQ.then <| Q.rg <| US.fieldAddr rfl (by decide) rfl rfl rfl f27_4 <| Q.lc 0 ty25 rfl rfl rfl <| ?_
      refine US.call_new rfl (by decide) rfl rfl rfl rfl (fun _ => eachInt_spec vs _ deepV h2 hsub _) ?_; rintro _ _ ⟨p13, rfl, rfl⟩
      refine US.lit_sl rfl (by decide) rfl rfl row55 (by decide) rfl rfl rfl (by exact lit_ok rfl) <| ?_
      refine US.append_own rfl (by decide) rfl rfl row55 rfl (k := 0) rfl (by omega) rfl (SrcO.sl (fun cs h => by cases List.mem_singleton.1 h; rfl)) (by simp; omega) (rs := (vs.map deepV ++ [0]).map encI) (by rw [List.map_append, List.take_of_length_le (by simp)]; rfl) fun p15 => ?_
      refine US.freeze' 15 (k := 0) rfl rfl (by simp) (rs := (vs.map deepV ++ [0]).map encI) (by rw [List.drop_zero, List.take_of_length_le (by simp)]) <| ?_
      refine US.call_pure rfl (by decide) rfl rfl rfl rfl (fun _ => max_spec (vs.map deepV ++ [0]) (by simp; omega) (by simp) _) <| ?_
      refine US.add rfl (by decide) rfl rfl rfl rfl (r := deepV (.mk k n t ks vs)) (by rw [hdeq]; exact IntWalk.i64_in _ (by omega)) <| ?_
      refine Q.as rfl <| Q.nt <| UW.ret <| ?_
      exact retR [] (fun _ => res_tmp rfl rfl) (by simp) fun hd => ⟨rfl, rfl⟩
    · refine US.fieldAddr rfl (by decide) rfl rfl rfl f27_0 <| Q.lc 0 ty3 rfl rfl rfl <| US.bin_int rfl (by decide) rfl rfl rfl rfl (r := .bool true) (by (simp [iop, sop, h4]; done)) <| ?_
      refine Q.mv rfl <| ?_
      (refine US.on rfl rfl (by decide) rfl ?_; refine US.fieldAddr rfl (by decide) rfl rfl rfl f27_0 ?_)
      (refine US.on rfl rfl (by decide) rfl ?_; refine US.ld_cell rfl (by decide) rfl rfl ty3 rfl (k := 0) rfl rfl ?_)
      (refine US.on rfl rfl (by decide) rfl ?_; refine US.bin_int rfl (by decide) rfl rfl rfl rfl (r := .bool true) (by (simp [iop, sop, h5]; done)) ?_)
      refine Q.pk rfl rfl <| Q.nt <| ?_
      refine UW.cond rfl (fun _ => ?_) (fun h => absurd h (by simp))
      refine Q.rg <| Q.as rfl <| Q.nt <| UW.ret <| UQ.passR <| ?_
      refine retR [] (fun _ => res_tmp rfl rfl) (by simp) fun hd => ⟨?_, rfl⟩
      rw [deepV, if_neg (by rintro (h | h); exact h4 h; exact h5 h)]
end Go.Proofs.Ytopaddebalfoeaa
