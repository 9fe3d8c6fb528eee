/- Texts as values; sameness. -/
import Derived.Test.YtopaddebalfoeaaV8
namespace Go.Proofs.Ytopaddebalfoeaa
open Go Go.RowKit Go.Eng
set_option linter.unusedSimpArgs false
set_option linter.unusedVariables false
def strV (s : ByteArray) : V := .mk 3 0 s [] []
theorem str_spec (s : ByteArray) (H : Hp) : ACall Try.prog 17 [.v (.string s)] H (IsR H (.agg (encV (strV s)))) := by
  refine UCall (n := 5) (H0 := H) (objs := []) Try.func17 (by kernel_rfl) rfl (by rw [Try.ntmps17]; rfl) .nil <| ?_
  refine Q.rg <| US.allocN rfl (by decide) rfl rfl z27 rfl rfl rfl rfl fun p2 => Q.nt <| Q.rg <| Q.mv rfl <| US.buildN [0, 2] rfl (by decide) rfl rfl bt27 rfl rfl rfl rfl rfl rfl rfl rfl <| US.st_whole rfl rfl rfl ty27 rfl (k := 0) rfl (by rfl) rfl rfl (by rfl) (by rfl) rfl <| ?_
  refine Q.nt <| UW.ret <| ?_
  exact retR [] (fun hd => res_cell (k := 0) hd rfl rfl rfl st27 sz27) (by simp) fun hd => ⟨rfl, rfl⟩
theorem strVs_snoc (l : List ByteArray) (k : Nat) (h : k < l.length) : (encVs (l.map strV)).take k ++ [encV (strV l[k])] = (encVs (l.map strV)).take (k + 1) := by
  have := encVs_snoc (l.map strV) k (by simpa using h)
  simpa using this
theorem eachStr_spec (l : List ByteArray) (hl : l.length ≤ 1000000) (H : Hp) :
    ACall Try.prog 39 [strs l, .clo 17 []] H (NewRow H 27 5 (encVs (l.map strV))) := by
  refine UCall (n := 22) (H0 := H) (objs := []) Try.func39 (by kernel_rfl) rfl (by rw [Try.ntmps39]; rfl) .nil <| ?_
  refine Q.rg <| Q.as rfl <| Q.nt <| Q.rg <| Q.as rfl <| US.nilOwn 5 27 5 (by decide) rfl fun i0 => US.nil <| UQ.then <| UW.seq <| Q.rg <| Q.mv rfl <| US.len_sl rfl (by decide) rfl rfl sl24 rfl <| Q.mv rfl <| Q.nt <| UW.block <| UW.loop (fun p : Nat × Nat => [(10, .v (.int .i64 (p.1 : Int))), (5, .own p.2 0 p.1 5), (8, strs l), (9, .v (.int .i64 ((l.map encS).length : Int))), (1, .clo 17 [])]) (fun p => [(p.2, .row 27 5 ((encVs (l.map strV)).take p.1))]) (fun p => p.1 ≤ l.length) (fun p => l.length - p.1) (0, i0) (Nat.zero_le _) ⟨rfl, rfl, rfl, rfl, rfl, trivial⟩ (.refl _) <| ?_
  rintro ⟨k, id⟩ hk
  simp only at hk
  have hll : (encVs (l.map strV)).length = l.length := by rw [encVs_len, List.length_map]
  have hml : (l.map encS).length = l.length := List.length_map ..
  refine Q.rg <| Q.bi rfl rfl rfl <| Q.nt <| UW.seq <| ?_
  refine UW.cond rfl (fun h => ?_) (fun h => ?_)
  · have h := of_decide_eq_true h
    have hlt : k < l.length := by omega
    refine UW.skip <| UQ.then <| UW.seq <| UW.block <| Q.rg <| US.indexAddr_sl rfl (by decide) rfl rfl sl24 rfl rfl (by omega) (strs_get l k hlt) rfl <| US.load_rp_cell rfl (by decide) rfl rfl rfl ty9 <| Q.as rfl <| Q.nt <| UW.region <| Q.mv rfl <| Q.mv rfl <| Q.mv rfl <| US.call_pure rfl (by decide) rfl rfl rfl rfl (fun _ => str_spec _ _) <| US.lit_sl rfl (by decide) rfl rfl row25 (by decide) rfl rfl rfl (by exact lit_ok rfl) <| ?_
    refine US.append_own rfl (by decide) rfl rfl row25 rfl (k := 0) rfl (by rw [List.length_take]; omega) rfl (SrcO.sl (fun cs h => by cases List.mem_singleton.1 h; exact encV_len _)) (by (simp; omega)) (Eq.trans (by rw [List.take_take, Nat.min_self]) (strVs_snoc l k hlt)) fun p19 => ?_
    refine Q.as rfl <| US.nil <| UQ.blockN <| UQ.then <| UW.region <| US.add rfl (by decide) rfl rfl rfl rfl (IntWalk.i64_in _ (by omega)) <| Q.mv rfl <| ?_
    exact US.round (a' := (k + 1, p19)) (by simp only; omega) (by simp only; omega) ⟨rfl, rfl, rfl, rfl, rfl, trivial⟩ (by simp)
  · have h := of_decide_eq_false h
    have hkl : k = l.length := by simp only at h; omega
    refine UW.exit <| UQ.pass <| UQ.pass <| UQ.here <| UQ.then <| Q.rg <| Q.mv rfl <| Q.as rfl <| Q.nt <| UW.ret <| retR [(id, _)] (fun _ => res_tmp rfl rfl) (.refl _) fun hd => ?_
    exact ⟨_, hd, rfl, id, by rw [hll, hkl], by rw [hkl, ← hll, List.take_length]⟩
def textsV (l : List ByteArray) : V := .mk 4 0 ⟨#[]⟩ [] (l.map strV)
theorem texts_spec (l : List ByteArray) (hl : l.length ≤ 1000000) (H : Hp) : ACall Try.prog 15 [strs l] H (IsR H (.agg (encV (textsV l)))) := by
  have hll : (encVs (l.map strV)).length = l.length := by rw [encVs_len, List.length_map]
  refine UCall (n := 6) (H0 := H) (objs := []) Try.func15 (by kernel_rfl) rfl (by rw [Try.ntmps15]; rfl) .nil <| ?_
  refine Q.rg <| US.allocN rfl (by decide) rfl rfl z27 rfl rfl rfl rfl fun p2 => Q.nt <| Q.rg <| Q.mv rfl <| ?_
  refine US.call_new rfl (by decide) rfl rfl rfl rfl (fun _ => eachStr_spec l hl _) ?_; rintro _ _ ⟨p4, rfl, rfl⟩
  refine US.freeze' 4 (k := 0) rfl rfl (by omega) (rs := encVs (l.map strV)) (by rw [List.drop_zero, List.take_length]) <| ?_
  refine US.buildN [0, 4] rfl (by decide) rfl rfl bt27 rfl rfl rfl rfl rfl rfl rfl rfl <| US.st_whole rfl rfl rfl ty27 rfl (k := 0) rfl (by rfl) rfl rfl (by rfl) (by rfl) rfl <| ?_
  refine Q.nt <| UW.ret <| ?_
  exact retR [] (fun hd => res_cell (k := 0) hd rfl rfl rfl st27 sz27) (by simp) fun hd => ⟨rfl, rfl⟩
def eqBy {α β : Type} (f : α → β → Bool) : List α → List β → Bool
  | [], [] => true
  | a :: l, b :: r => f a b && eqBy f l r
  | _, _ => false
theorem eqBy_true {α β : Type} {f : α → β → Bool} : ∀ {l : List α} {r : List β}, l.length = r.length → (∀ (i : Nat) (h : i < l.length) (h' : i < r.length), f l[i] r[i] = true) → eqBy f l r = true
  | [], [], _, _ => rfl
  | a :: l, b :: r, hl, h => by
    rw [eqBy, Bool.and_eq_true]
    exact ⟨h 0 (by simp) (by simp), eqBy_true (by simpa using hl) (fun i h1 h2 => h (i + 1) (by simpa using h1) (by simpa using h2))⟩
  | [], _ :: _, hl, _ => by simp at hl
  | _ :: _, [], hl, _ => by simp at hl
theorem eqBy_len {α β : Type} {f : α → β → Bool} : ∀ {l : List α} {r : List β}, l.length ≠ r.length → eqBy f l r = false
  | [], [], h => by simp at h
  | a :: l, b :: r, h => by rw [eqBy, eqBy_len (by simpa using h)]; simp
  | [], _ :: _, _ => rfl
  | _ :: _, [], _ => rfl
theorem eqBy_at {α β : Type} {f : α → β → Bool} : ∀ {l : List α} {r : List β} (i : Nat) (h : i < l.length) (h' : i < r.length), f l[i] r[i] = false → eqBy f l r = false
  | a :: l, b :: r, 0, _, _, hf => by
    have : f a b = false := hf
    rw [eqBy, this]; rfl
  | a :: l, b :: r, i + 1, h, h', hf => by rw [eqBy, eqBy_at i (by simpa using h) (by simpa using h') (by simpa using hf)]; simp
  | [], _, _, h, _, _ => by simp at h
  | _ :: _, [], _, _, h', _ => by simp at h'
def eqT (a b : ByteArray) : Bool := a.toList == b.toList
theorem equal_spec (l r : List ByteArray) (hl : l.length ≤ 1000000) (H : Hp) : ACall Try.prog 40 [strs l, strs r] H (IsR H (.v (.bool (eqBy eqT l r)))) := by
  have hml : (l.map encS).length = l.length := List.length_map ..
  have hmr : (r.map encS).length = r.length := List.length_map ..
  refine UCall (n := 26) (H0 := H) (objs := []) Try.func40 (by kernel_rfl) rfl (by rw [Try.ntmps40]; rfl) .nil <| ?_
  refine Q.rg <| Q.as rfl <| Q.nt <| UW.seq <| Q.rg <| ?_
  by_cases hlen : (((l.map encS).length : Nat) : Int) = ((r.map encS).length : Nat)
  · refine Q.mv rfl <| US.len_sl rfl (by decide) rfl rfl sl24 rfl <| Q.mv rfl <| US.len_sl rfl (by decide) rfl rfl sl24 rfl <| US.bin_int rfl (by decide) rfl rfl rfl rfl (r := .bool false) (by simp only [iop, hlen]; simp) <| ?_
    refine Q.nt <| UW.cond rfl (fun h => absurd h (by simp)) fun _ => ?_
    refine UW.skip <| UQ.then <| UW.seq <| Q.rg <| Q.mv rfl <| US.len_sl rfl (by decide) rfl rfl sl24 rfl <| Q.mv rfl <| Q.nt <| UW.block <| UW.loop (fun k : Nat => [(13, .v (.int .i64 (k : Int))), (11, strs l), (12, .v (.int .i64 ((l.map encS).length : Int))), (0, strs l), (1, strs r)]) (fun _ => []) (fun k => k ≤ l.length ∧ ∀ (j : Nat) (h : j < l.length) (h' : j < r.length), j < k → eqT l[j] r[j] = true) (fun k => l.length - k) 0 ⟨Nat.zero_le _, fun j _ _ h => absurd h (by omega)⟩ ⟨rfl, rfl, rfl, rfl, rfl, trivial⟩ (.refl _) <| ?_
    rintro k ⟨hk, hj⟩
    refine Q.rg <| Q.bi rfl rfl rfl <| Q.nt <| UW.seq <| ?_
    refine UW.cond rfl (fun h => ?_) (fun h => ?_)
    · have h := of_decide_eq_true h
      have hlt : k < l.length := by omega
      have hltr : k < r.length := by omega
      refine UW.skip <| UQ.then <| UW.seq <| UW.block <| Q.rg <| Q.mv rfl <| Q.as rfl <| Q.nt <| UW.seq <| ?_
      refine' UW.draw' (by kernel_rfl) [0, 0, 3, 7, 0, 0, 48, 112, 255] [some 16, some 17, some 18, some 19, some 20, some 21, some 22, some 23, some 24] [some (16, _), some (17, _), some (18, _), some (19, _), some (20, _), some (21, _), some (22, _), some (23, _), some (24, _)] [] [3, 7] rfl (by decide) (by decide) (QAll.free (by decide) rfl rfl ?q0 (QAll.free (by decide) rfl rfl ?q1 (QAll.free (by decide) rfl rfl ?q2 (QAll.held (by decide) rfl rfl ?q3 (QAll.free (by decide) rfl rfl ?q4 (QAll.free (by decide) rfl rfl ?q5 (QAll.free (by decide) rfl rfl ?q6 (QAll.held (by decide) rfl rfl ?q7 (QAll.free (by decide) rfl rfl ?q8 QAll.nil))))))))) ?k
      case q0 => exact QF.move rfl rfl rfl
      case q1 => exact QF.move rfl rfl rfl
      case q2 => exact QF.indexAddr_sl rfl rfl sl24 rfl rfl (by omega) (strs_get l k hlt) rfl
      case q3 => exact QS.load_rp_cell rfl rfl rfl ty9
      case q4 => exact QF.move rfl rfl rfl
      case q5 => exact QF.move rfl rfl rfl
      case q6 => exact QF.indexAddr_sl rfl rfl sl24 rfl rfl (by omega) (strs_get r k hltr) rfl
      case q7 => exact QS.load_rp_cell rfl rfl rfl ty9
      case q8 => exact QF.bin_str rfl rfl rfl rfl rfl
      refine CH.nil <| ?_
      simp only [app, finL]
      refine UQ.then <| ?_
      refine UW.cond rfl (fun hb => ?_) (fun hb => ?_)
      · refine Q.rg <| Q.as rfl <| Q.nt <| UW.ret <| UQ.blockR <| UQ.passR <| UQ.passR <| UQ.blockR <| UQ.passR <| ?_
        refine retR [] (fun _ => res_tmp rfl rfl) (.refl _) fun hd => ⟨?_, rfl⟩
        rw [eqBy_at k hlt hltr (by unfold eqT; simpa using hb)]
      · refine UW.skip <| UQ.blockN <| UQ.then <| UW.region <| US.add rfl (by decide) rfl rfl rfl rfl (IntWalk.i64_in _ (by omega)) <| Q.mv rfl <| ?_
        exact US.round (a' := k + 1) ⟨by omega, fun j h3 h4 h5 => by
          by_cases hjk : j = k
          · subst hjk; unfold eqT; simpa using hb
          · exact hj j h3 h4 (by omega)⟩ (by omega) ⟨rfl, rfl, rfl, rfl, rfl, trivial⟩ (.refl _)
    · have h := of_decide_eq_false h
      refine UW.exit <| UQ.pass <| UQ.pass <| UQ.here <| UQ.then <| Q.rg <| Q.as rfl <| Q.nt <| UW.ret <| ?_
      refine retR [] (fun _ => res_tmp rfl rfl) (.refl _) fun hd => ⟨?_, rfl⟩
      rw [eqBy_true (by omega) (fun i h1 h2 => hj i h1 h2 (by omega))]
  · refine Q.mv rfl <| US.len_sl rfl (by decide) rfl rfl sl24 rfl <| Q.mv rfl <| US.len_sl rfl (by decide) rfl rfl sl24 rfl <| US.bin_int rfl (by decide) rfl rfl rfl rfl (r := .bool true) (by simp only [iop]; simp [hlen]; omega) <| ?_
    refine Q.nt <| ?_
    refine UW.cond rfl (fun _ => ?_) (fun h => absurd h (by simp))
    refine Q.rg <| Q.as rfl <| Q.nt <| UW.ret <| UQ.passR <| ?_
    refine retR [] (fun _ => res_tmp rfl rfl) (.refl _) fun hd => ⟨?_, rfl⟩
    rw [eqBy_len (by omega)]
theorem equalFunc_spec (l r : List V) (f : Nat) (g : V → V → Bool) (hl : l.length ≤ 1000000) (hc : ∀ x ∈ l, ∀ y ∈ r, ∀ H, ACall Try.prog f [.agg (encV x), .agg (encV y)] H (IsR H (.v (.bool (g x y))))) (H : Hp) :
    ACall Try.prog 41 [.sl (encVs l), .sl (encVs r), .clo f []] H (IsR H (.v (.bool (eqBy g l r)))) := by
  have hml := encVs_len l
  have hmr := encVs_len r
  refine UCall (n := 32) (H0 := H) (objs := []) Try.func41 (by kernel_rfl) rfl (by rw [Try.ntmps41]; rfl) .nil <| ?_
  refine Q.rg <| Q.as rfl <| Q.nt <| UW.seq <| Q.rg <| ?_
  by_cases hlen : (((encVs l).length : Nat) : Int) = ((encVs r).length : Nat)
  · refine Q.mv rfl <| US.len_sl rfl (by decide) rfl rfl sl25 rfl <| Q.mv rfl <| US.len_sl rfl (by decide) rfl rfl sl25 rfl <| US.bin_int rfl (by decide) rfl rfl rfl rfl (r := .bool false) (by simp only [iop, hlen]; simp) <| ?_
    refine Q.nt <| UW.cond rfl (fun h => absurd h (by simp)) fun _ => ?_
    refine UW.skip <| UQ.then <| UW.seq <| Q.rg <| Q.mv rfl <| US.len_sl rfl (by decide) rfl rfl sl25 rfl <| Q.mv rfl <| Q.nt <| UW.block <| UW.loop (fun k : Nat => [(17, .v (.int .i64 (k : Int))), (15, .sl (encVs l)), (16, .v (.int .i64 ((encVs l).length : Int))), (0, .sl (encVs l)), (1, .sl (encVs r)), (2, .clo f [])]) (fun _ => []) (fun k => k ≤ l.length ∧ ∀ (j : Nat) (h : j < l.length) (h' : j < r.length), j < k → g l[j] r[j] = true) (fun k => l.length - k) 0 ⟨Nat.zero_le _, fun j _ _ h => absurd h (by omega)⟩ ⟨rfl, rfl, rfl, rfl, rfl, rfl, trivial⟩ (.refl _) <| ?_
    rintro k ⟨hk, hj⟩
    refine Q.rg <| Q.bi rfl rfl rfl <| Q.nt <| UW.seq <| ?_
    refine UW.cond rfl (fun h => ?_) (fun h => ?_)
    · have h := of_decide_eq_true h
      have hlt : k < l.length := by omega
      have hltr : k < r.length := by omega
      refine UW.skip <| UQ.then <| UW.seq <| UW.block <| Q.rg <| Q.mv rfl <| US.indexAddr_sl rfl (by decide) rfl rfl sl25 rfl rfl (by omega) (encVs_get l k hlt) (encV_len _) <| US.load_rp_agg rfl (by decide) rfl rfl rfl ty27 (by exact encV_len _) <| ?_
      refine US.allocN rfl (by decide) rfl rfl z27 rfl rfl rfl rfl fun p8 => Q.as rfl <| US.st_whole rfl rfl rfl ty27 rfl (k := 0) rfl (by rfl) rfl rfl (by exact encV_cell _) (by exact encV_len _) rfl <| ?_
      refine Q.nt <| Q.rg <| Q.mv rfl <| Q.mv rfl <| US.indexAddr_sl rfl (by decide) rfl rfl sl25 rfl rfl (by omega) (encVs_get r k hltr) (encV_len _) <| US.load_rp_agg rfl (by decide) rfl rfl rfl ty27 (by exact encV_len _) <| ?_
      refine US.allocN rfl (by decide) rfl rfl z27 rfl rfl rfl rfl fun p9 => US.st_whole rfl rfl rfl ty27 rfl (k := 0) rfl (by rfl) rfl rfl (by exact encV_cell _) (by exact encV_len _) rfl <| ?_
      refine Q.nt <| Q.rg <| Q.mv rfl <| US.ld_whole rfl (by decide) rfl rfl ty27 rfl (k := 1) rfl (by exact encV_len _) <| ?_
      refine US.ld_whole rfl (by decide) rfl rfl ty27 rfl (k := 0) rfl (by exact encV_len _) <| ?_
      refine US.call_pure rfl (by decide) rfl rfl rfl rfl (fun _ => hc _ (List.getElem_mem hlt) _ (List.getElem_mem hltr) _) <| US.not rfl (by decide) rfl rfl rfl <| Q.nt <| ?_
      refine UW.cond rfl (fun hb => ?_) (fun hb => ?_)
      · refine Q.rg <| Q.as rfl <| Q.nt <| UW.ret <| UQ.blockR <| UQ.passR <| UQ.passR <| UQ.blockR <| UQ.passR <| ?_
        refine retR [] (fun _ => res_tmp rfl rfl) (by simp) fun hd => ⟨?_, rfl⟩
        rw [eqBy_at k hlt hltr (by simpa using hb)]
      · refine UW.skip <| UQ.blockN <| UQ.then <| UW.region <| US.add rfl (by decide) rfl rfl rfl rfl (IntWalk.i64_in _ (by omega)) <| Q.mv rfl <| ?_
        exact US.round (a' := k + 1) ⟨by omega, fun j h3 h4 h5 => by
          by_cases hjk : j = k
          · subst hjk; simpa using hb
          · exact hj j h3 h4 (by omega)⟩ (by omega) ⟨rfl, rfl, rfl, rfl, rfl, rfl, trivial⟩ (by simp)
    · have h := of_decide_eq_false h
      refine UW.exit <| UQ.pass <| UQ.pass <| UQ.here <| UQ.then <| Q.rg <| Q.as rfl <| Q.nt <| UW.ret <| ?_
      refine retR [] (fun _ => res_tmp rfl rfl) (.refl _) fun hd => ⟨?_, rfl⟩
      rw [eqBy_true (by omega) (fun i h1 h2 => hj i h1 h2 (by omega))]
  · refine Q.mv rfl <| US.len_sl rfl (by decide) rfl rfl sl25 rfl <| Q.mv rfl <| US.len_sl rfl (by decide) rfl rfl sl25 rfl <| US.bin_int rfl (by decide) rfl rfl rfl rfl (r := .bool true) (by simp only [iop]; (simp [hlen]; done)) <| ?_
    refine Q.nt <| ?_
    refine UW.cond rfl (fun _ => ?_) (fun h => absurd h (by simp))
    refine Q.rg <| Q.as rfl <| Q.nt <| UW.ret <| UQ.passR <| ?_
    refine retR [] (fun _ => res_tmp rfl rfl) (.refl _) fun hd => ⟨?_, rfl⟩
    rw [eqBy_len (by omega)]
mutual
/-- Are they the same? -/
def sameV : V → V → Bool
  | .mk k n t ks vs, .mk k' n' t' ks' vs' => (k == k') && ((n == n') && (eqT t t' && (eqBy eqT ks ks' && samesV vs vs')))
def samesV : List V → List V → Bool
  | [], [] => true
  | x :: l, y :: r => sameV x y && samesV l r
  | [], _ :: _ => false
  | _ :: _, [] => false
end
theorem samesV_eq : ∀ l r : List V, samesV l r = eqBy sameV l r
  | [], [] => rfl
  | x :: l, y :: r => by rw [samesV, samesV_eq l r]; rfl
  | [], _ :: _ => rfl
  | _ :: _, [] => rfl
theorem equal_spec' (l r : List ByteArray) (hl : l.length ≤ 1000000) (b : Bool) (hb : eqBy eqT l r = b) (H : Hp) : ACall Try.prog 40 [strs l, strs r] H (IsR H (.v (.bool b))) := by rw [← hb]; exact equal_spec l r hl H
theorem same_spec (x : V) (hx : Fits x) : ∀ (y : V) (H : Hp), ACall Try.prog 16 [.agg (encV x), .agg (encV y)] H (IsR H (.v (.bool (sameV x y)))) := by
  induction hx with
  | mk k n t ks vs h1 h2 h ih =>
  rintro ⟨k', n', t', ks', vs'⟩ H
  refine UCall (n := 38) (H0 := H) (objs := []) Try.func16 (by kernel_rfl) rfl (by rw [Try.ntmps16]; rfl) .nil <| ?_
  refine Q.rg <| US.box rfl (by decide) rfl rfl rfl rfl (by rfl) fun p2 => ?_
  refine US.box rfl (by decide) rfl rfl rfl rfl (by rfl) fun p3 => ?_
  refine Q.as rfl <| Q.nt <| Q.rg <| ?_
  by_cases hk : k = k'
  · by_cases hn : n = n'
    · cases ht : eqT t t' with
      | true =>
        cases hks : eqBy eqT ks ks' with
        | true =>
          refine US.fieldAddr rfl (by decide) rfl rfl rfl f27_0 <| Q.lc 1 ty3 rfl rfl rfl <| US.fieldAddr rfl (by decide) rfl rfl rfl f27_0 <| Q.lc 0 ty3 rfl rfl rfl <| US.bin_int rfl (by decide) rfl rfl rfl rfl (r := .bool true) (by (simp [iop, sop, hk]; done)) <| ?_
          refine Q.mv rfl <| ?_
          (refine US.on rfl rfl (by decide) rfl ?_; refine US.fieldAddr rfl (by decide) rfl rfl rfl f27_1 ?_)
          (refine US.on rfl rfl (by decide) rfl ?_; refine US.ld_cell rfl (by decide) rfl rfl ty2 rfl (k := 1) rfl rfl ?_)
          (refine US.on rfl rfl (by decide) rfl ?_; refine US.fieldAddr rfl (by decide) rfl rfl rfl f27_1 ?_)
          (refine US.on rfl rfl (by decide) rfl ?_; refine US.ld_cell rfl (by decide) rfl rfl ty2 rfl (k := 0) rfl rfl ?_)
          (refine US.on rfl rfl (by decide) rfl ?_; refine US.bin_int rfl (by decide) rfl rfl rfl rfl (r := .bool true) (by (simp [iop, sop, hn]; done)) ?_)
          refine Q.pk rfl rfl <| Q.mv rfl <| ?_
          (refine US.on rfl rfl (by decide) rfl ?_; refine US.fieldAddr rfl (by decide) rfl rfl rfl f27_2 ?_)
          (refine US.on rfl rfl (by decide) rfl ?_; refine US.ld_cell rfl (by decide) rfl rfl ty9 rfl (k := 1) rfl rfl ?_)
          (refine US.on rfl rfl (by decide) rfl ?_; refine US.fieldAddr rfl (by decide) rfl rfl rfl f27_2 ?_)
          (refine US.on rfl rfl (by decide) rfl ?_; refine US.ld_cell rfl (by decide) rfl rfl ty9 rfl (k := 0) rfl rfl ?_)
          (refine US.on rfl rfl (by decide) rfl ?_; refine US.bin_str rfl (by decide) rfl rfl rfl rfl (r := true) (congrArg some ht) ?_)
          refine Q.pk rfl rfl <| Q.mv rfl <| ?_
          (refine US.on rfl rfl (by decide) rfl ?_; refine US.fieldAddr rfl (by decide) rfl rfl rfl f27_3 ?_)
          (refine US.on rfl rfl (by decide) rfl ?_; refine US.ld_cell rfl (by decide) rfl rfl ty24 rfl (k := 1) rfl rfl ?_)
          (refine US.on rfl rfl (by decide) rfl ?_; refine US.fieldAddr rfl (by decide) rfl rfl rfl f27_3 ?_)
          (refine US.on rfl rfl (by decide) rfl ?_; refine US.ld_cell rfl (by decide) rfl rfl ty24 rfl (k := 0) rfl rfl ?_)
          (refine US.on rfl rfl (by decide) rfl ?_; refine US.call_pure rfl (by decide) rfl rfl rfl rfl (fun _ => equal_spec' ks ks' h1 true hks _) ?_)
          refine Q.pk rfl rfl <| Q.mv rfl <| ?_
          (refine US.on rfl rfl (by decide) rfl ?_; refine US.fieldAddr rfl (by decide) rfl rfl rfl f27_4 ?_)
          (refine US.on rfl rfl (by decide) rfl ?_; refine US.ld_cell rfl (by decide) rfl rfl ty25 rfl (k := 1) rfl rfl ?_)
          (refine US.on rfl rfl (by decide) rfl ?_; refine US.fieldAddr rfl (by decide) rfl rfl rfl f27_4 ?_)
          (refine US.on rfl rfl (by decide) rfl ?_; refine US.ld_cell rfl (by decide) rfl rfl ty25 rfl (k := 0) rfl rfl ?_)
          (refine US.on rfl rfl (by decide) rfl ?_; refine US.call_pure rfl (by decide) rfl rfl rfl rfl (fun _ => equalFunc_spec vs vs' _ sameV h2 (fun x hx y _ H => ih x hx y H) _) ?_)
          refine Q.pk rfl rfl <| Q.as rfl <| Q.nt <| UW.ret <| ?_
          refine retR [] (fun _ => res_tmp rfl rfl) (by simp) fun hd => ⟨?_, rfl⟩
          rw [sameV, ht, hks, samesV_eq, hk, hn]; simp
        | false =>
          refine US.fieldAddr rfl (by decide) rfl rfl rfl f27_0 <| Q.lc 1 ty3 rfl rfl rfl <| US.fieldAddr rfl (by decide) rfl rfl rfl f27_0 <| Q.lc 0 ty3 rfl rfl rfl <| US.bin_int rfl (by decide) rfl rfl rfl rfl (r := .bool true) (by (simp [iop, sop, hk]; done)) <| ?_
          refine Q.mv rfl <| ?_
          (refine US.on rfl rfl (by decide) rfl ?_; refine US.fieldAddr rfl (by decide) rfl rfl rfl f27_1 ?_)
          (refine US.on rfl rfl (by decide) rfl ?_; refine US.ld_cell rfl (by decide) rfl rfl ty2 rfl (k := 1) rfl rfl ?_)
          (refine US.on rfl rfl (by decide) rfl ?_; refine US.fieldAddr rfl (by decide) rfl rfl rfl f27_1 ?_)
          (refine US.on rfl rfl (by decide) rfl ?_; refine US.ld_cell rfl (by decide) rfl rfl ty2 rfl (k := 0) rfl rfl ?_)
          (refine US.on rfl rfl (by decide) rfl ?_; refine US.bin_int rfl (by decide) rfl rfl rfl rfl (r := .bool true) (by (simp [iop, sop, hn]; done)) ?_)
          refine Q.pk rfl rfl <| Q.mv rfl <| ?_
          (refine US.on rfl rfl (by decide) rfl ?_; refine US.fieldAddr rfl (by decide) rfl rfl rfl f27_2 ?_)
          (refine US.on rfl rfl (by decide) rfl ?_; refine US.ld_cell rfl (by decide) rfl rfl ty9 rfl (k := 1) rfl rfl ?_)
          (refine US.on rfl rfl (by decide) rfl ?_; refine US.fieldAddr rfl (by decide) rfl rfl rfl f27_2 ?_)
          (refine US.on rfl rfl (by decide) rfl ?_; refine US.ld_cell rfl (by decide) rfl rfl ty9 rfl (k := 0) rfl rfl ?_)
          (refine US.on rfl rfl (by decide) rfl ?_; refine US.bin_str rfl (by decide) rfl rfl rfl rfl (r := true) (congrArg some ht) ?_)
          refine Q.pk rfl rfl <| Q.mv rfl <| ?_
          (refine US.on rfl rfl (by decide) rfl ?_; refine US.fieldAddr rfl (by decide) rfl rfl rfl f27_3 ?_)
          (refine US.on rfl rfl (by decide) rfl ?_; refine US.ld_cell rfl (by decide) rfl rfl ty24 rfl (k := 1) rfl rfl ?_)
          (refine US.on rfl rfl (by decide) rfl ?_; refine US.fieldAddr rfl (by decide) rfl rfl rfl f27_3 ?_)
          (refine US.on rfl rfl (by decide) rfl ?_; refine US.ld_cell rfl (by decide) rfl rfl ty24 rfl (k := 0) rfl rfl ?_)
          (refine US.on rfl rfl (by decide) rfl ?_; refine US.call_pure rfl (by decide) rfl rfl rfl rfl (fun _ => equal_spec' ks ks' h1 false hks _) ?_)
          refine Q.pk rfl rfl <| Q.mv rfl <| Q.of <| Q.of <| Q.of <| Q.of <| Q.of <| Q.pk rfl rfl <| Q.as rfl <| Q.nt <| UW.ret <| ?_
          refine retR [] (fun _ => res_tmp rfl rfl) (by simp) fun hd => ⟨?_, rfl⟩
          rw [sameV, hks]; simp
      | false =>
        refine US.fieldAddr rfl (by decide) rfl rfl rfl f27_0 <| Q.lc 1 ty3 rfl rfl rfl <| US.fieldAddr rfl (by decide) rfl rfl rfl f27_0 <| Q.lc 0 ty3 rfl rfl rfl <| US.bin_int rfl (by decide) rfl rfl rfl rfl (r := .bool true) (by (simp [iop, sop, hk]; done)) <| ?_
        refine Q.mv rfl <| ?_
        (refine US.on rfl rfl (by decide) rfl ?_; refine US.fieldAddr rfl (by decide) rfl rfl rfl f27_1 ?_)
        (refine US.on rfl rfl (by decide) rfl ?_; refine US.ld_cell rfl (by decide) rfl rfl ty2 rfl (k := 1) rfl rfl ?_)
        (refine US.on rfl rfl (by decide) rfl ?_; refine US.fieldAddr rfl (by decide) rfl rfl rfl f27_1 ?_)
        (refine US.on rfl rfl (by decide) rfl ?_; refine US.ld_cell rfl (by decide) rfl rfl ty2 rfl (k := 0) rfl rfl ?_)
        (refine US.on rfl rfl (by decide) rfl ?_; refine US.bin_int rfl (by decide) rfl rfl rfl rfl (r := .bool true) (by (simp [iop, sop, hn]; done)) ?_)
        refine Q.pk rfl rfl <| Q.mv rfl <| ?_
        (refine US.on rfl rfl (by decide) rfl ?_; refine US.fieldAddr rfl (by decide) rfl rfl rfl f27_2 ?_)
        (refine US.on rfl rfl (by decide) rfl ?_; refine US.ld_cell rfl (by decide) rfl rfl ty9 rfl (k := 1) rfl rfl ?_)
        (refine US.on rfl rfl (by decide) rfl ?_; refine US.fieldAddr rfl (by decide) rfl rfl rfl f27_2 ?_)
        (refine US.on rfl rfl (by decide) rfl ?_; refine US.ld_cell rfl (by decide) rfl rfl ty9 rfl (k := 0) rfl rfl ?_)
        (refine US.on rfl rfl (by decide) rfl ?_; refine US.bin_str rfl (by decide) rfl rfl rfl rfl (r := false) (congrArg some ht) ?_)
        refine Q.pk rfl rfl <| Q.mv rfl <| Q.of <| Q.of <| Q.of <| Q.of <| Q.of <| Q.pk rfl rfl <| Q.mv rfl <| Q.of <| Q.of <| Q.of <| Q.of <| Q.of <| Q.pk rfl rfl <| Q.as rfl <| Q.nt <| UW.ret <| ?_
        refine retR [] (fun _ => res_tmp rfl rfl) (by simp) fun hd => ⟨?_, rfl⟩
        rw [sameV, ht]; simp
    · have hn2 : (n == n') = false := by simpa using hn
      refine US.fieldAddr rfl (by decide) rfl rfl rfl f27_0 <| Q.lc 1 ty3 rfl rfl rfl <| US.fieldAddr rfl (by decide) rfl rfl rfl f27_0 <| Q.lc 0 ty3 rfl rfl rfl <| US.bin_int rfl (by decide) rfl rfl rfl rfl (r := .bool true) (by (simp [iop, sop, hk]; done)) <| ?_
      refine Q.mv rfl <| ?_
      (refine US.on rfl rfl (by decide) rfl ?_; refine US.fieldAddr rfl (by decide) rfl rfl rfl f27_1 ?_)
      (refine US.on rfl rfl (by decide) rfl ?_; refine US.ld_cell rfl (by decide) rfl rfl ty2 rfl (k := 1) rfl rfl ?_)
      (refine US.on rfl rfl (by decide) rfl ?_; refine US.fieldAddr rfl (by decide) rfl rfl rfl f27_1 ?_)
      (refine US.on rfl rfl (by decide) rfl ?_; refine US.ld_cell rfl (by decide) rfl rfl ty2 rfl (k := 0) rfl rfl ?_)
      (refine US.on rfl rfl (by decide) rfl ?_; refine US.bin_int rfl (by decide) rfl rfl rfl rfl (r := .bool false) (by (simp [iop, sop, hn]; done)) ?_)
      refine Q.pk rfl rfl <| Q.mv rfl <| Q.of <| Q.of <| Q.of <| Q.of <| Q.of <| Q.pk rfl rfl <| Q.mv rfl <| Q.of <| Q.of <| Q.of <| Q.of <| Q.of <| Q.pk rfl rfl <| Q.mv rfl <| Q.of <| Q.of <| Q.of <| Q.of <| Q.of <| Q.pk rfl rfl <| Q.as rfl <| Q.nt <| UW.ret <| ?_
      refine retR [] (fun _ => res_tmp rfl rfl) (by simp) fun hd => ⟨?_, rfl⟩
      rw [sameV, hn2]; simp
  · have hk2 : (k == k') = false := by simpa using hk
    refine US.fieldAddr rfl (by decide) rfl rfl rfl f27_0 <| Q.lc 1 ty3 rfl rfl rfl <| US.fieldAddr rfl (by decide) rfl rfl rfl f27_0 <| Q.lc 0 ty3 rfl rfl rfl <| US.bin_int rfl (by decide) rfl rfl rfl rfl (r := .bool false) (by (simp [iop, sop, hk]; done)) <| ?_
    refine Q.mv rfl <| Q.of <| Q.of <| Q.of <| Q.of <| Q.of <| Q.pk rfl rfl <| Q.mv rfl <| Q.of <| Q.of <| Q.of <| Q.of <| Q.of <| Q.pk rfl rfl <| Q.mv rfl <| Q.of <| Q.of <| Q.of <| Q.of <| Q.of <| Q.pk rfl rfl <| Q.mv rfl <| Q.of <| Q.of <| Q.of <| Q.of <| Q.of <| Q.pk rfl rfl <| Q.as rfl <| Q.nt <| UW.ret <| ?_
    refine retR [] (fun _ => res_tmp rfl rfl) (by simp) fun hd => ⟨?_, rfl⟩
    rw [sameV, hk2]; simp
/-- How many letters and texts, each text counting one more. -/
def bulk : List ByteArray → Nat
  | [] => 0
  | a :: r => 1 + a.size + bulk r
theorem bulk_len : ∀ l : List ByteArray, l.length ≤ bulk l
  | [] => Nat.le_refl _
  | a :: r => by have := bulk_len r; simp only [bulk, List.length_cons]; omega
theorem bulk_take : ∀ (l : List ByteArray) (k : Nat) (h : k < l.length), bulk (l.take (k + 1)) = bulk (l.take k) + (1 + l[k].size)
  | a :: r, 0, _ => by simp [bulk]
  | a :: r, k + 1, h => by
    have := bulk_take r k (by simpa using h)
    simp only [List.take_succ_cons, bulk, this, List.getElem_cons_succ]; omega
theorem bulk_take_le : ∀ (l : List ByteArray) (k : Nat), bulk (l.take k) ≤ bulk l
  | [], k => by simp
  | a :: r, 0 => by simp [bulk]
  | a :: r, k + 1 => by have := bulk_take_le r k; simp only [List.take_succ_cons, bulk]; omega
theorem many_spec (l : List ByteArray) (hl : bulk l ≤ 4000000) (H : Hp) : ACall Try.prog 14 [strs l] H (IsR H (.v (.bool (decide ((bulk l : Int) > 200))))) := by
  have hml : (l.map encS).length = l.length := List.length_map ..
  have hbl := bulk_len l
  refine UCall (n := 21) (H0 := H) (objs := []) Try.func14 (by kernel_rfl) rfl (by rw [Try.ntmps14]; rfl) .nil <| ?_
  refine Q.rg <| Q.as rfl <| Q.nt <| Q.rg <| Q.as rfl <| Q.nt <| UW.seq <| Q.rg <| Q.as rfl <| Q.nt <| UW.block <| UW.loop (fun k : Nat => [(4, .v (.int .i64 (k : Int))), (3, .v (.int .i64 (bulk (l.take k) : Int))), (0, strs l)]) (fun _ => []) (fun k => k ≤ l.length) (fun k => l.length - k) 0 (Nat.zero_le _) ⟨rfl, rfl, rfl, trivial⟩ (.refl _) <| ?_
  intro k hk
  refine UW.seq <| Q.rg <| Q.mv rfl <| Q.mv rfl <| US.len_sl rfl (by decide) rfl rfl sl24 rfl <| Q.bi rfl rfl rfl <| Q.nt <| ?_
  refine UW.cond rfl (fun h => ?_) (fun h => ?_)
  · have h := of_decide_eq_true h
    have hlt : k < l.length := by omega
    have hbt := bulk_take l k hlt
    have hbk := bulk_take_le l (k + 1)
    refine UW.skip <| UQ.then <| UW.seq <| UW.block <| UW.region <| Q.mv rfl <| Q.mv rfl <| Q.mv rfl <| US.indexAddr_sl rfl (by decide) rfl rfl sl24 rfl rfl (by omega) (strs_get l k hlt) rfl <| US.load_rp_cell rfl (by decide) rfl rfl rfl ty9 <| US.len_str rfl (by decide) rfl rfl Try.underlying9 rfl <| US.add rfl (by decide) rfl rfl rfl rfl (r := ((1 + l[k].size : Nat) : Int)) (Eq.trans (IntWalk.i64_in _ (by omega)) (by omega)) <| US.add rfl (by decide) rfl rfl rfl rfl (r := ((bulk (l.take (k + 1)) : Nat) : Int)) (Eq.trans (IntWalk.i64_in _ (by omega)) (by omega)) <| Q.as rfl <| US.nil <| UQ.blockN <| UQ.then <| UW.region <| Q.mv rfl <| US.add rfl (by decide) rfl rfl rfl rfl (IntWalk.i64_in _ (by omega)) <| Q.as rfl <| ?_
    exact US.round (a' := k + 1) (by omega) (by omega) ⟨rfl, rfl, rfl, trivial⟩ (.refl _)
  · have h := of_decide_eq_false h
    refine UW.exit <| UQ.pass <| UQ.pass <| UQ.here <| UQ.then <| Q.rg <| Q.mv rfl <| Q.bi rfl rfl rfl <| Q.as rfl <| Q.nt <| UW.ret <| ?_
    refine retR [] (fun _ => res_tmp rfl rfl) (.refl _) fun hd => ⟨?_, rfl⟩
    rw [List.take_of_length_le (by omega)]
end Go.Proofs.Ytopaddebalfoeaa
