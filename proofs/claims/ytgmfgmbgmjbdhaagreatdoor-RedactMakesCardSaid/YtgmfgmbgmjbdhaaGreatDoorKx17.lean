/- Texts as values; sameness. · The other reading of runes: how many bytes follow. -/
import Derived.Test.YtgmfgmbgmjbdhaaGreatDoorKx16
import Derived.Test.YtgmfgmbgmjbdhaaGreatDoorKx10
section
namespace Go.Proofs.YtgmfgmbgmjbdhaaGreatDoor
open Go Go.RowKit Go.Eng
set_option maxRecDepth 100000
set_option linter.unusedSimpArgs false
set_option linter.unusedVariables false
def strV (s : ByteArray) : V := .mk 3 0 s [] []
theorem str_spec (s : ByteArray) (H : Hp) : ACall Tryz.prog 31 [.v (.string s)] H (IsR H (.agg (encV (strV s)))) := by
  refine UCall (n := 5) (H0 := H) (objs := []) Tryz.func31 (by kernel_rfl) rfl (by rw [Tryz.ntmps31]; rfl) .nil <| ?_
  refine Q.rg <| US.allocN rfl (by decide) rfl rfl z26 rfl rfl rfl rfl fun p2 => Q.nt <| Q.rg <| Q.mv rfl <| US.buildN [0, 2] rfl (by decide) rfl rfl bt26 rfl rfl rfl rfl rfl rfl rfl rfl <| US.st_whole rfl rfl rfl ty26 rfl (k := 0) rfl (by rfl) rfl rfl (by rfl) (by rfl) rfl <| ?_
  refine Q.nt <| UW.ret <| ?_
  exact retR [] (fun hd => res_cell (k := 0) hd rfl rfl rfl st26 sz26) (by simp) fun hd => ⟨rfl, rfl⟩
def eqBy {α β : Type} (f : α → β → Bool) : List α → List β → Bool
  | [], [] => true
  | a :: l, b :: r => f a b && eqBy f l r
  | _, _ => false
theorem eqBy_true {α β : Type} {f : α → β → Bool} : ∀ {l : List α} {r : List β}, l.length = r.length → (∀ (i : Nat) (h : i < l.length) (h' : i < r.length), f l[i] r[i] = true) → eqBy f l r = true
  | [], [], _, _ => rfl
  | a :: l, b :: r, hl, h => by
    rw [eqBy, Bool.and_eq_true]
    exact ⟨h 0 (by simp) (by simp), eqBy_true (by simpa using hl) (fun i h1 h2 => h (i + 1) (by simpa using h1) (by simpa using h2))⟩
  | [], _ :: _, hl, _ => by simp at hl
  | _ :: _, [], hl, _ => by simp at hl
theorem eqBy_len {α β : Type} {f : α → β → Bool} : ∀ {l : List α} {r : List β}, l.length ≠ r.length → eqBy f l r = false
  | [], [], h => by simp at h
  | a :: l, b :: r, h => by rw [eqBy, eqBy_len (by simpa using h)]; simp
  | [], _ :: _, _ => rfl
  | _ :: _, [], _ => rfl
theorem eqBy_at {α β : Type} {f : α → β → Bool} : ∀ {l : List α} {r : List β} (i : Nat) (h : i < l.length) (h' : i < r.length), f l[i] r[i] = false → eqBy f l r = false
  | a :: l, b :: r, 0, _, _, hf => by
    have : f a b = false := hf
    rw [eqBy, this]; rfl
  | a :: l, b :: r, i + 1, h, h', hf => by rw [eqBy, eqBy_at i (by simpa using h) (by simpa using h') (by simpa using hf)]; simp
  | [], _, _, h, _, _ => by simp at h
  | _ :: _, [], _, _, h', _ => by simp at h'
def eqT (a b : ByteArray) : Bool := a.toList == b.toList
theorem equal_spec (l r : List ByteArray) (hl : l.length ≤ 1000000) (H : Hp) : ACall Tryz.prog 75 [strs l, strs r] H (IsR H (.v (.bool (eqBy eqT l r)))) := by
  have hml : (l.map encS).length = l.length := List.length_map ..
  have hmr : (r.map encS).length = r.length := List.length_map ..
  refine UCall (n := 26) (H0 := H) (objs := []) Tryz.func75 (by kernel_rfl) rfl (by rw [Tryz.ntmps75]; rfl) .nil <| ?_
  refine Q.rg <| Q.as rfl <| Q.nt <| UW.seq <| Q.rg <| ?_
  by_cases hlen : (((l.map encS).length : Nat) : Int) = ((r.map encS).length : Nat)
  · refine Q.mv rfl <| US.len_sl rfl (by decide) rfl rfl sl23 rfl <| Q.mv rfl <| US.len_sl rfl (by decide) rfl rfl sl23 rfl <| US.bin_int rfl (by decide) rfl rfl rfl rfl (r := .bool false) (by simp only [iop, hlen]; simp) <| ?_
    refine Q.nt <| UW.cond rfl (fun h => absurd h (by simp)) fun _ => ?_
    refine UW.skip <| UQ.then <| UW.seq <| Q.rg <| Q.mv rfl <| US.len_sl rfl (by decide) rfl rfl sl23 rfl <| Q.mv rfl <| Q.nt <| UW.block <| UW.loop (fun k : Nat => [(13, .v (.int .i64 (k : Int))), (11, strs l), (12, .v (.int .i64 ((l.map encS).length : Int))), (0, strs l), (1, strs r)]) (fun _ => []) (fun k => k ≤ l.length ∧ ∀ (j : Nat) (h : j < l.length) (h' : j < r.length), j < k → eqT l[j] r[j] = true) (fun k => l.length - k) 0 ⟨Nat.zero_le _, fun j _ _ h => absurd h (by omega)⟩ ⟨rfl, rfl, rfl, rfl, rfl, trivial⟩ (.refl _) <| ?_
    rintro k ⟨hk, hj⟩
    refine Q.rg <| Q.bi rfl rfl rfl <| Q.nt <| UW.seq <| ?_
    refine UW.cond rfl (fun h => ?_) (fun h => ?_)
    · have h := of_decide_eq_true h
      have hlt : k < l.length := by omega
      have hltr : k < r.length := by omega
      refine UW.skip <| UQ.then <| UW.seq <| UW.block <| Q.rg <| Q.mv rfl <| Q.as rfl <| Q.nt <| UW.seq <| ?_
      refine' UW.draw' (by kernel_rfl) [0, 0, 3, 7, 0, 0, 48, 112, 255] [some 16, some 17, some 18, some 19, some 20, some 21, some 22, some 23, some 24] [some (16, _), some (17, _), some (18, _), some (19, _), some (20, _), some (21, _), some (22, _), some (23, _), some (24, _)] [] [3, 7] rfl (by decide) (by decide) (QAll.free (by decide) rfl rfl ?q0 (QAll.free (by decide) rfl rfl ?q1 (QAll.free (by decide) rfl rfl ?q2 (QAll.held (by decide) rfl rfl ?q3 (QAll.free (by decide) rfl rfl ?q4 (QAll.free (by decide) rfl rfl ?q5 (QAll.free (by decide) rfl rfl ?q6 (QAll.held (by decide) rfl rfl ?q7 (QAll.free (by decide) rfl rfl ?q8 QAll.nil))))))))) ?k
      case q0 => exact QF.move rfl rfl rfl
      case q1 => exact QF.move rfl rfl rfl
      case q2 => exact QF.indexAddr_sl rfl rfl sl23 rfl rfl (by omega) (strs_get l k hlt) rfl
      case q3 => exact QS.load_rp_cell rfl rfl rfl ty9
      case q4 => exact QF.move rfl rfl rfl
      case q5 => exact QF.move rfl rfl rfl
      case q6 => exact QF.indexAddr_sl rfl rfl sl23 rfl rfl (by omega) (strs_get r k hltr) rfl
      case q7 => exact QS.load_rp_cell rfl rfl rfl ty9
      case q8 => exact QF.bin_str rfl rfl rfl rfl rfl
      refine CH.nil <| ?_
      simp only [app, finL]
      refine UQ.then <| ?_
      refine UW.cond rfl (fun hb => ?_) (fun hb => ?_)
      · refine Q.rg <| Q.as rfl <| Q.nt <| UW.ret <| UQ.blockR <| UQ.passR <| UQ.passR <| UQ.blockR <| UQ.passR <| ?_
        refine retR [] (fun _ => res_tmp rfl rfl) (.refl _) fun hd => ⟨?_, rfl⟩
        rw [eqBy_at k hlt hltr (by unfold eqT; simpa using hb)]
      · refine UW.skip <| UQ.blockN <| UQ.then <| UW.region <| US.add rfl (by decide) rfl rfl rfl rfl (IntWalk.i64_in _ (by omega)) <| Q.mv rfl <| ?_
        exact US.round (a' := k + 1) ⟨by omega, fun j h3 h4 h5 => by
          by_cases hjk : j = k
          · subst hjk; unfold eqT; simpa using hb
          · exact hj j h3 h4 (by omega)⟩ (by omega) ⟨rfl, rfl, rfl, rfl, rfl, trivial⟩ (.refl _)
    · have h := of_decide_eq_false h
      refine UW.exit <| UQ.pass <| UQ.pass <| UQ.here <| UQ.then <| Q.rg <| Q.as rfl <| Q.nt <| UW.ret <| ?_
      refine retR [] (fun _ => res_tmp rfl rfl) (.refl _) fun hd => ⟨?_, rfl⟩
      rw [eqBy_true (by omega) (fun i h1 h2 => hj i h1 h2 (by omega))]
  · refine Q.mv rfl <| US.len_sl rfl (by decide) rfl rfl sl23 rfl <| Q.mv rfl <| US.len_sl rfl (by decide) rfl rfl sl23 rfl <| US.bin_int rfl (by decide) rfl rfl rfl rfl (r := .bool true) (by simp only [iop]; simp [hlen]; omega) <| ?_
    refine Q.nt <| ?_
    refine UW.cond rfl (fun _ => ?_) (fun h => absurd h (by simp))
    refine Q.rg <| Q.as rfl <| Q.nt <| UW.ret <| UQ.passR <| ?_
    refine retR [] (fun _ => res_tmp rfl rfl) (.refl _) fun hd => ⟨?_, rfl⟩
    rw [eqBy_len (by omega)]
theorem equalFunc_spec (l r : List V) (f : Nat) (g : V → V → Bool) (hl : l.length ≤ 1000000) (hc : ∀ x ∈ l, ∀ y ∈ r, ∀ H, ACall Tryz.prog f [.agg (encV x), .agg (encV y)] H (IsR H (.v (.bool (g x y))))) (H : Hp) :
    ACall Tryz.prog 76 [.sl (encVs l), .sl (encVs r), .clo f []] H (IsR H (.v (.bool (eqBy g l r)))) := by
  have hml := encVs_len l
  have hmr := encVs_len r
  refine UCall (n := 32) (H0 := H) (objs := []) Tryz.func76 (by kernel_rfl) rfl (by rw [Tryz.ntmps76]; rfl) .nil <| ?_
  refine Q.rg <| Q.as rfl <| Q.nt <| UW.seq <| Q.rg <| ?_
  by_cases hlen : (((encVs l).length : Nat) : Int) = ((encVs r).length : Nat)
  · refine Q.mv rfl <| US.len_sl rfl (by decide) rfl rfl sl24 rfl <| Q.mv rfl <| US.len_sl rfl (by decide) rfl rfl sl24 rfl <| US.bin_int rfl (by decide) rfl rfl rfl rfl (r := .bool false) (by simp only [iop, hlen]; simp) <| ?_
    refine Q.nt <| UW.cond rfl (fun h => absurd h (by simp)) fun _ => ?_
    refine UW.skip <| UQ.then <| UW.seq <| Q.rg <| Q.mv rfl <| US.len_sl rfl (by decide) rfl rfl sl24 rfl <| Q.mv rfl <| Q.nt <| UW.block <| UW.loop (fun k : Nat => [(17, .v (.int .i64 (k : Int))), (15, .sl (encVs l)), (16, .v (.int .i64 ((encVs l).length : Int))), (0, .sl (encVs l)), (1, .sl (encVs r)), (2, .clo f [])]) (fun _ => []) (fun k => k ≤ l.length ∧ ∀ (j : Nat) (h : j < l.length) (h' : j < r.length), j < k → g l[j] r[j] = true) (fun k => l.length - k) 0 ⟨Nat.zero_le _, fun j _ _ h => absurd h (by omega)⟩ ⟨rfl, rfl, rfl, rfl, rfl, rfl, trivial⟩ (.refl _) <| ?_
    rintro k ⟨hk, hj⟩
    refine Q.rg <| Q.bi rfl rfl rfl <| Q.nt <| UW.seq <| ?_
    refine UW.cond rfl (fun h => ?_) (fun h => ?_)
    · have h := of_decide_eq_true h
      have hlt : k < l.length := by omega
      have hltr : k < r.length := by omega
      refine UW.skip <| UQ.then <| UW.seq <| UW.block <| Q.rg <| Q.mv rfl <| US.indexAddr_sl rfl (by decide) rfl rfl sl24 rfl rfl (by omega) (encVs_get l k hlt) (encV_len _) <| US.load_rp_agg rfl (by decide) rfl rfl rfl ty26 (by exact encV_len _) <| ?_
      refine US.allocN rfl (by decide) rfl rfl z26 rfl rfl rfl rfl fun p8 => Q.as rfl <| US.st_whole rfl rfl rfl ty26 rfl (k := 0) rfl (by rfl) rfl rfl (by exact encV_cell _) (by exact encV_len _) rfl <| ?_
      refine Q.nt <| Q.rg <| Q.mv rfl <| Q.mv rfl <| US.indexAddr_sl rfl (by decide) rfl rfl sl24 rfl rfl (by omega) (encVs_get r k hltr) (encV_len _) <| US.load_rp_agg rfl (by decide) rfl rfl rfl ty26 (by exact encV_len _) <| ?_
      refine US.allocN rfl (by decide) rfl rfl z26 rfl rfl rfl rfl fun p9 => US.st_whole rfl rfl rfl ty26 rfl (k := 0) rfl (by rfl) rfl rfl (by exact encV_cell _) (by exact encV_len _) rfl <| ?_
      refine Q.nt <| Q.rg <| Q.mv rfl <| US.ld_whole rfl (by decide) rfl rfl ty26 rfl (k := 1) rfl (by exact encV_len _) <| ?_
      refine US.ld_whole rfl (by decide) rfl rfl ty26 rfl (k := 0) rfl (by exact encV_len _) <| ?_
      refine US.call_pure rfl (by decide) rfl rfl rfl rfl (fun _ => hc _ (List.getElem_mem hlt) _ (List.getElem_mem hltr) _) <| US.not rfl (by decide) rfl rfl rfl <| Q.nt <| ?_
      refine UW.cond rfl (fun hb => ?_) (fun hb => ?_)
      · refine Q.rg <| Q.as rfl <| Q.nt <| UW.ret <| UQ.blockR <| UQ.passR <| UQ.passR <| UQ.blockR <| UQ.passR <| ?_
        refine retR [] (fun _ => res_tmp rfl rfl) (by simp) fun hd => ⟨?_, rfl⟩
        rw [eqBy_at k hlt hltr (by simpa using hb)]
      · refine UW.skip <| UQ.blockN <| UQ.then <| UW.region <| US.add rfl (by decide) rfl rfl rfl rfl (IntWalk.i64_in _ (by omega)) <| Q.mv rfl <| ?_
        exact US.round (a' := k + 1) ⟨by omega, fun j h3 h4 h5 => by
          by_cases hjk : j = k
          · subst hjk; simpa using hb
          · exact hj j h3 h4 (by omega)⟩ (by omega) ⟨rfl, rfl, rfl, rfl, rfl, rfl, trivial⟩ (by simp)
    · have h := of_decide_eq_false h
      refine UW.exit <| UQ.pass <| UQ.pass <| UQ.here <| UQ.then <| Q.rg <| Q.as rfl <| Q.nt <| UW.ret <| ?_
      refine retR [] (fun _ => res_tmp rfl rfl) (.refl _) fun hd => ⟨?_, rfl⟩
      rw [eqBy_true (by omega) (fun i h1 h2 => hj i h1 h2 (by omega))]
  · refine Q.mv rfl <| US.len_sl rfl (by decide) rfl rfl sl24 rfl <| Q.mv rfl <| US.len_sl rfl (by decide) rfl rfl sl24 rfl <| US.bin_int rfl (by decide) rfl rfl rfl rfl (r := .bool true) (by simp only [iop]; (simp [hlen]; done)) <| ?_
    refine Q.nt <| ?_
    refine UW.cond rfl (fun _ => ?_) (fun h => absurd h (by simp))
    refine Q.rg <| Q.as rfl <| Q.nt <| UW.ret <| UQ.passR <| ?_
    refine retR [] (fun _ => res_tmp rfl rfl) (.refl _) fun hd => ⟨?_, rfl⟩
    rw [eqBy_len (by omega)]
mutual
/-- Are they the same? -/
def sameV : V → V → Bool
  | .mk k n t ks vs, .mk k' n' t' ks' vs' => (k == k') && ((n == n') && (eqT t t' && (eqBy eqT ks ks' && samesV vs vs')))
def samesV : List V → List V → Bool
  | [], [] => true
  | x :: l, y :: r => sameV x y && samesV l r
  | [], _ :: _ => false
  | _ :: _, [] => false
end
theorem samesV_eq : ∀ l r : List V, samesV l r = eqBy sameV l r
  | [], [] => rfl
  | x :: l, y :: r => by rw [samesV, samesV_eq l r]; rfl
  | [], _ :: _ => rfl
  | _ :: _, [] => rfl
theorem equal_spec' (l r : List ByteArray) (hl : l.length ≤ 1000000) (b : Bool) (hb : eqBy eqT l r = b) (H : Hp) : ACall Tryz.prog 75 [strs l, strs r] H (IsR H (.v (.bool b))) := by rw [← hb]; exact equal_spec l r hl H
theorem same_spec (x : V) (hx : Fits x) : ∀ (y : V) (H : Hp), ACall Tryz.prog 39 [.agg (encV x), .agg (encV y)] H (IsR H (.v (.bool (sameV x y)))) := by
  induction hx with
  | mk k n t ks vs h1 h2 h ih =>
  rintro ⟨k', n', t', ks', vs'⟩ H
  refine UCall (n := 38) (H0 := H) (objs := []) Tryz.func39 (by kernel_rfl) rfl (by rw [Tryz.ntmps39]; rfl) .nil <| ?_
  refine Q.rg <| US.box rfl (by decide) rfl rfl rfl rfl (by rfl) fun p2 => ?_
  refine US.box rfl (by decide) rfl rfl rfl rfl (by rfl) fun p3 => ?_
  refine Q.as rfl <| Q.nt <| Q.rg <| ?_
  by_cases hk : k = k'
  · by_cases hn : n = n'
    · cases ht : eqT t t' with
      | true =>
        cases hks : eqBy eqT ks ks' with
        | true =>
          refine US.fieldAddr rfl (by decide) rfl rfl rfl f26_0 <| Q.lc 1 ty3 rfl rfl rfl <| US.fieldAddr rfl (by decide) rfl rfl rfl f26_0 <| Q.lc 0 ty3 rfl rfl rfl <| US.bin_int rfl (by decide) rfl rfl rfl rfl (r := .bool true) (by (simp [iop, sop, hk]; done)) <| ?_
          refine Q.mv rfl <| ?_
          (refine US.on rfl rfl (by decide) rfl ?_; refine US.fieldAddr rfl (by decide) rfl rfl rfl f26_1 ?_)
          (refine US.on rfl rfl (by decide) rfl ?_; refine US.ld_cell rfl (by decide) rfl rfl ty2 rfl (k := 1) rfl rfl ?_)
          (refine US.on rfl rfl (by decide) rfl ?_; refine US.fieldAddr rfl (by decide) rfl rfl rfl f26_1 ?_)
          (refine US.on rfl rfl (by decide) rfl ?_; refine US.ld_cell rfl (by decide) rfl rfl ty2 rfl (k := 0) rfl rfl ?_)
          (refine US.on rfl rfl (by decide) rfl ?_; refine US.bin_int rfl (by decide) rfl rfl rfl rfl (r := .bool true) (by (simp [iop, sop, hn]; done)) ?_)
          refine Q.pk rfl rfl <| Q.mv rfl <| ?_
          (refine US.on rfl rfl (by decide) rfl ?_; refine US.fieldAddr rfl (by decide) rfl rfl rfl f26_2 ?_)
          (refine US.on rfl rfl (by decide) rfl ?_; refine US.ld_cell rfl (by decide) rfl rfl ty9 rfl (k := 1) rfl rfl ?_)
          (refine US.on rfl rfl (by decide) rfl ?_; refine US.fieldAddr rfl (by decide) rfl rfl rfl f26_2 ?_)
          (refine US.on rfl rfl (by decide) rfl ?_; refine US.ld_cell rfl (by decide) rfl rfl ty9 rfl (k := 0) rfl rfl ?_)
          (refine US.on rfl rfl (by decide) rfl ?_; refine US.bin_str rfl (by decide) rfl rfl rfl rfl (r := true) (congrArg some ht) ?_)
          refine Q.pk rfl rfl <| Q.mv rfl <| ?_
          (refine US.on rfl rfl (by decide) rfl ?_; refine US.fieldAddr rfl (by decide) rfl rfl rfl f26_3 ?_)
          (refine US.on rfl rfl (by decide) rfl ?_; refine US.ld_cell rfl (by decide) rfl rfl ty23 rfl (k := 1) rfl rfl ?_)
          (refine US.on rfl rfl (by decide) rfl ?_; refine US.fieldAddr rfl (by decide) rfl rfl rfl f26_3 ?_)
          (refine US.on rfl rfl (by decide) rfl ?_; refine US.ld_cell rfl (by decide) rfl rfl ty23 rfl (k := 0) rfl rfl ?_)
          (refine US.on rfl rfl (by decide) rfl ?_; refine US.call_pure rfl (by decide) rfl rfl rfl rfl (fun _ => equal_spec' ks ks' h1 true hks _) ?_)
          refine Q.pk rfl rfl <| Q.mv rfl <| ?_
          (refine US.on rfl rfl (by decide) rfl ?_; refine US.fieldAddr rfl (by decide) rfl rfl rfl f26_4 ?_)
          (refine US.on rfl rfl (by decide) rfl ?_; refine US.ld_cell rfl (by decide) rfl rfl ty24 rfl (k := 1) rfl rfl ?_)
          (refine US.on rfl rfl (by decide) rfl ?_; refine US.fieldAddr rfl (by decide) rfl rfl rfl f26_4 ?_)
          (refine US.on rfl rfl (by decide) rfl ?_; refine US.ld_cell rfl (by decide) rfl rfl ty24 rfl (k := 0) rfl rfl ?_)
          (refine US.on rfl rfl (by decide) rfl ?_; refine US.call_pure rfl (by decide) rfl rfl rfl rfl (fun _ => equalFunc_spec vs vs' _ sameV h2 (fun x hx y _ H => ih x hx y H) _) ?_)
          refine Q.pk rfl rfl <| Q.as rfl <| Q.nt <| UW.ret <| ?_
          refine retR [] (fun _ => res_tmp rfl rfl) (by simp) fun hd => ⟨?_, rfl⟩
          rw [sameV, ht, hks, samesV_eq, hk, hn]; simp
        | false =>
          refine US.fieldAddr rfl (by decide) rfl rfl rfl f26_0 <| Q.lc 1 ty3 rfl rfl rfl <| US.fieldAddr rfl (by decide) rfl rfl rfl f26_0 <| Q.lc 0 ty3 rfl rfl rfl <| US.bin_int rfl (by decide) rfl rfl rfl rfl (r := .bool true) (by (simp [iop, sop, hk]; done)) <| ?_
          refine Q.mv rfl <| ?_
          (refine US.on rfl rfl (by decide) rfl ?_; refine US.fieldAddr rfl (by decide) rfl rfl rfl f26_1 ?_)
          (refine US.on rfl rfl (by decide) rfl ?_; refine US.ld_cell rfl (by decide) rfl rfl ty2 rfl (k := 1) rfl rfl ?_)
          (refine US.on rfl rfl (by decide) rfl ?_; refine US.fieldAddr rfl (by decide) rfl rfl rfl f26_1 ?_)
          (refine US.on rfl rfl (by decide) rfl ?_; refine US.ld_cell rfl (by decide) rfl rfl ty2 rfl (k := 0) rfl rfl ?_)
          (refine US.on rfl rfl (by decide) rfl ?_; refine US.bin_int rfl (by decide) rfl rfl rfl rfl (r := .bool true) (by (simp [iop, sop, hn]; done)) ?_)
          refine Q.pk rfl rfl <| Q.mv rfl <| ?_
          (refine US.on rfl rfl (by decide) rfl ?_; refine US.fieldAddr rfl (by decide) rfl rfl rfl f26_2 ?_)
          (refine US.on rfl rfl (by decide) rfl ?_; refine US.ld_cell rfl (by decide) rfl rfl ty9 rfl (k := 1) rfl rfl ?_)
          (refine US.on rfl rfl (by decide) rfl ?_; refine US.fieldAddr rfl (by decide) rfl rfl rfl f26_2 ?_)
          (refine US.on rfl rfl (by decide) rfl ?_; refine US.ld_cell rfl (by decide) rfl rfl ty9 rfl (k := 0) rfl rfl ?_)
          (refine US.on rfl rfl (by decide) rfl ?_; refine US.bin_str rfl (by decide) rfl rfl rfl rfl (r := true) (congrArg some ht) ?_)
          refine Q.pk rfl rfl <| Q.mv rfl <| ?_
          (refine US.on rfl rfl (by decide) rfl ?_; refine US.fieldAddr rfl (by decide) rfl rfl rfl f26_3 ?_)
          (refine US.on rfl rfl (by decide) rfl ?_; refine US.ld_cell rfl (by decide) rfl rfl ty23 rfl (k := 1) rfl rfl ?_)
          (refine US.on rfl rfl (by decide) rfl ?_; refine US.fieldAddr rfl (by decide) rfl rfl rfl f26_3 ?_)
          (refine US.on rfl rfl (by decide) rfl ?_; refine US.ld_cell rfl (by decide) rfl rfl ty23 rfl (k := 0) rfl rfl ?_)
          (refine US.on rfl rfl (by decide) rfl ?_; refine US.call_pure rfl (by decide) rfl rfl rfl rfl (fun _ => equal_spec' ks ks' h1 false hks _) ?_)
          refine Q.pk rfl rfl <| Q.mv rfl <| Q.of <| Q.of <| Q.of <| Q.of <| Q.of <| Q.pk rfl rfl <| Q.as rfl <| Q.nt <| UW.ret <| ?_
          refine retR [] (fun _ => res_tmp rfl rfl) (by simp) fun hd => ⟨?_, rfl⟩
          rw [sameV, hks]; simp
      | false =>
        refine US.fieldAddr rfl (by decide) rfl rfl rfl f26_0 <| Q.lc 1 ty3 rfl rfl rfl <| US.fieldAddr rfl (by decide) rfl rfl rfl f26_0 <| Q.lc 0 ty3 rfl rfl rfl <| US.bin_int rfl (by decide) rfl rfl rfl rfl (r := .bool true) (by (simp [iop, sop, hk]; done)) <| ?_
        refine Q.mv rfl <| ?_
        (refine US.on rfl rfl (by decide) rfl ?_; refine US.fieldAddr rfl (by decide) rfl rfl rfl f26_1 ?_)
        (refine US.on rfl rfl (by decide) rfl ?_; refine US.ld_cell rfl (by decide) rfl rfl ty2 rfl (k := 1) rfl rfl ?_)
        (refine US.on rfl rfl (by decide) rfl ?_; refine US.fieldAddr rfl (by decide) rfl rfl rfl f26_1 ?_)
        (refine US.on rfl rfl (by decide) rfl ?_; refine US.ld_cell rfl (by decide) rfl rfl ty2 rfl (k := 0) rfl rfl ?_)
        (refine US.on rfl rfl (by decide) rfl ?_; refine US.bin_int rfl (by decide) rfl rfl rfl rfl (r := .bool true) (by (simp [iop, sop, hn]; done)) ?_)
        refine Q.pk rfl rfl <| Q.mv rfl <| ?_
        (refine US.on rfl rfl (by decide) rfl ?_; refine US.fieldAddr rfl (by decide) rfl rfl rfl f26_2 ?_)
        (refine US.on rfl rfl (by decide) rfl ?_; refine US.ld_cell rfl (by decide) rfl rfl ty9 rfl (k := 1) rfl rfl ?_)
        (refine US.on rfl rfl (by decide) rfl ?_; refine US.fieldAddr rfl (by decide) rfl rfl rfl f26_2 ?_)
        (refine US.on rfl rfl (by decide) rfl ?_; refine US.ld_cell rfl (by decide) rfl rfl ty9 rfl (k := 0) rfl rfl ?_)
        (refine US.on rfl rfl (by decide) rfl ?_; refine US.bin_str rfl (by decide) rfl rfl rfl rfl (r := false) (congrArg some ht) ?_)
        refine Q.pk rfl rfl <| Q.mv rfl <| Q.of <| Q.of <| Q.of <| Q.of <| Q.of <| Q.pk rfl rfl <| Q.mv rfl <| Q.of <| Q.of <| Q.of <| Q.of <| Q.of <| Q.pk rfl rfl <| Q.as rfl <| Q.nt <| UW.ret <| ?_
        refine retR [] (fun _ => res_tmp rfl rfl) (by simp) fun hd => ⟨?_, rfl⟩
        rw [sameV, ht]; simp
    · have hn2 : (n == n') = false := by simpa using hn
      refine US.fieldAddr rfl (by decide) rfl rfl rfl f26_0 <| Q.lc 1 ty3 rfl rfl rfl <| US.fieldAddr rfl (by decide) rfl rfl rfl f26_0 <| Q.lc 0 ty3 rfl rfl rfl <| US.bin_int rfl (by decide) rfl rfl rfl rfl (r := .bool true) (by (simp [iop, sop, hk]; done)) <| ?_
      refine Q.mv rfl <| ?_
      (refine US.on rfl rfl (by decide) rfl ?_; refine US.fieldAddr rfl (by decide) rfl rfl rfl f26_1 ?_)
      (refine US.on rfl rfl (by decide) rfl ?_; refine US.ld_cell rfl (by decide) rfl rfl ty2 rfl (k := 1) rfl rfl ?_)
      (refine US.on rfl rfl (by decide) rfl ?_; refine US.fieldAddr rfl (by decide) rfl rfl rfl f26_1 ?_)
      (refine US.on rfl rfl (by decide) rfl ?_; refine US.ld_cell rfl (by decide) rfl rfl ty2 rfl (k := 0) rfl rfl ?_)
      (refine US.on rfl rfl (by decide) rfl ?_; refine US.bin_int rfl (by decide) rfl rfl rfl rfl (r := .bool false) (by (simp [iop, sop, hn]; done)) ?_)
      refine Q.pk rfl rfl <| Q.mv rfl <| Q.of <| Q.of <| Q.of <| Q.of <| Q.of <| Q.pk rfl rfl <| Q.mv rfl <| Q.of <| Q.of <| Q.of <| Q.of <| Q.of <| Q.pk rfl rfl <| Q.mv rfl <| Q.of <| Q.of <| Q.of <| Q.of <| Q.of <| Q.pk rfl rfl <| Q.as rfl <| Q.nt <| UW.ret <| ?_
      refine retR [] (fun _ => res_tmp rfl rfl) (by simp) fun hd => ⟨?_, rfl⟩
      rw [sameV, hn2]; simp
  · have hk2 : (k == k') = false := by simpa using hk
    refine US.fieldAddr rfl (by decide) rfl rfl rfl f26_0 <| Q.lc 1 ty3 rfl rfl rfl <| US.fieldAddr rfl (by decide) rfl rfl rfl f26_0 <| Q.lc 0 ty3 rfl rfl rfl <| US.bin_int rfl (by decide) rfl rfl rfl rfl (r := .bool false) (by (simp [iop, sop, hk]; done)) <| ?_
    refine Q.mv rfl <| Q.of <| Q.of <| Q.of <| Q.of <| Q.of <| Q.pk rfl rfl <| Q.mv rfl <| Q.of <| Q.of <| Q.of <| Q.of <| Q.of <| Q.pk rfl rfl <| Q.mv rfl <| Q.of <| Q.of <| Q.of <| Q.of <| Q.of <| Q.pk rfl rfl <| Q.mv rfl <| Q.of <| Q.of <| Q.of <| Q.of <| Q.of <| Q.pk rfl rfl <| Q.as rfl <| Q.nt <| UW.ret <| ?_
    refine retR [] (fun _ => res_tmp rfl rfl) (by simp) fun hd => ⟨?_, rfl⟩
    rw [sameV, hk2]; simp
end Go.Proofs.YtgmfgmbgmjbdhaaGreatDoor
end
section
namespace Go.Proofs.YtgmfgmbgmjbdhaaGreatDoor
open Go Go.RowKit Go.Eng
set_option linter.unusedSimpArgs false
set_option linter.unusedVariables false
set_option maxRecDepth 100000
def moreN (c : Int) : Int := if c < 128 then 0 else if 194 ≤ c ∧ c ≤ 223 then 1 else if 224 ≤ c ∧ c ≤ 239 then 2 else if 240 ≤ c ∧ c ≤ 244 then 3 else -1
theorem more_spec (c : Int) (H : Hp) : ACall Tryz.prog 127 [.v (.int .u8 c)] H (IsR H (.v (.int .i64 (moreN c)))) := by
  refine UCall (n := 27) (H0 := H) (objs := []) Tryz.func127 (by kernel_rfl) rfl (by rw [Tryz.ntmps127]; rfl) .nil <| ?_
  focus
    refine Q.rg <| Q.as rfl <| Q.nt <| S.sq <| UW.block <| Q.rg <| Q.mv rfl <| Q.bi rfl rfl rfl <| Q.as rfl <| Q.nt <| ?_
    refine S.cD rfl (fun hc3 => ?_) (fun hc3 => ?_)
    refine Q.rg <| Q.as rfl <| Q.nt <| UW.ret <| UQ.blockR <| UQ.passR <| S.rtR (fun _ => res_tmp rfl rfl) <| ?_
    focus ((congr 2; unfold moreN; (repeat' split) <;> rfl); done)
    refine Q.rg <| Q.mv rfl <| Q.bi rfl rfl rfl <| Q.mv rfl <| ?_
    refine S.tD 9 (fun hc9 => ?_) (fun hc9 => ?_)
    refine Q.on (Z.mv rfl) <| Q.on (Z.bi rfl rfl rfl) <| Q.pk rfl rfl <| Q.as rfl <| Q.nt <| ?_
    refine S.cD rfl (fun hc6 => ?_) (fun hc6 => ?_)
    refine Q.rg <| Q.as rfl <| Q.nt <| UW.ret <| UQ.blockR <| UQ.passR <| S.rtR (fun _ => res_tmp rfl rfl) <| ?_
    focus ((congr 2; unfold moreN; (repeat' split) <;> first | rfl | omega); done)
    refine Q.rg <| Q.mv rfl <| Q.bi rfl rfl rfl <| Q.mv rfl <| ?_
    refine S.tD 16 (fun hc16 => ?_) (fun hc16 => ?_)
    rotate_left
    omega
    rotate_right
    refine Q.on (Z.mv rfl) <| Q.on (Z.bi rfl rfl rfl) <| Q.pk rfl rfl <| Q.as rfl <| Q.nt <| ?_
    refine S.cD rfl (fun hc13 => ?_) (fun hc13 => ?_)
    refine Q.rg <| Q.as rfl <| Q.nt <| UW.ret <| UQ.blockR <| UQ.passR <| S.rtR (fun _ => res_tmp rfl rfl) <| ?_
    focus ((congr 2; unfold moreN; (repeat' split) <;> first | rfl | omega); done)
    refine Q.rg <| Q.mv rfl <| Q.bi rfl rfl rfl <| Q.mv rfl <| ?_
    refine S.tD 23 (fun hc23 => ?_) (fun hc23 => ?_)
    rotate_left
    omega
    rotate_right
    refine Q.on (Z.mv rfl) <| Q.on (Z.bi rfl rfl rfl) <| Q.pk rfl rfl <| Q.as rfl <| Q.nt <| ?_
    refine S.cD rfl (fun hc20 => ?_) (fun hc20 => ?_)
    refine Q.rg <| Q.as rfl <| Q.nt <| UW.ret <| UQ.blockR <| UQ.passR <| S.rtR (fun _ => res_tmp rfl rfl) <| ?_
    focus ((congr 2; unfold moreN; (repeat' split) <;> first | rfl | omega); done)
    refine UW.skip <| UQ.blockN <| UQ.then <| Q.rg <| Q.as rfl <| Q.nt <| UW.ret <| S.rtR (fun _ => res_tmp rfl rfl) <| ?_
    focus ((congr 2; unfold moreN; (repeat' split) <;> first | rfl | omega); done)
    refine Q.of <| Q.of <| Q.pk rfl rfl <| Q.as rfl <| Q.nt <| S.cF rfl rfl <| Q.rg <| Q.mv rfl <| Q.bi rfl rfl rfl <| Q.mv rfl <| ?_
    refine S.tD 16 (fun hc16 => ?_) (fun hc16 => ?_)
    omega
    refine Q.of <| Q.of <| Q.pk rfl rfl <| Q.as rfl <| Q.nt <| S.cF rfl rfl <| Q.rg <| Q.mv rfl <| Q.bi rfl rfl rfl <| Q.mv rfl <| ?_
    refine S.tD 23 (fun hc23 => ?_) (fun hc23 => ?_)
    omega
    refine Q.of <| Q.of <| Q.pk rfl rfl <| Q.as rfl <| Q.nt <| S.cF rfl rfl <| UW.skip <| UQ.blockN <| UQ.then <| Q.rg <| Q.as rfl <| Q.nt <| UW.ret <| S.rtR (fun _ => res_tmp rfl rfl) <| ?_
    focus ((congr 2; unfold moreN; (repeat' split) <;> first | rfl | omega); done)
end Go.Proofs.YtgmfgmbgmjbdhaaGreatDoor
end
