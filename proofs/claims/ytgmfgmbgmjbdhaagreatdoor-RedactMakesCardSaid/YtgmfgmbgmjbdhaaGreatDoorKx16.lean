/- A key more in an object, or another value. · Numbers, keys, one that fails. · What is right. · What the package itself can do. -/
import Derived.Test.YtgmfgmbgmjbdhaaGreatDoorKx15
import Derived.Test.YtgmfgmbgmjbdhaaGreatDoorKx12
section
namespace Go.Proofs.YtgmfgmbgmjbdhaaGreatDoor
open Go Go.RowKit Go.Eng
set_option linter.unusedSimpArgs false
set_option linter.unusedVariables false
set_option maxRecDepth 100000
def lessB (a b : ByteArray) : Bool := decide (cmpB a b < 0)
theorem indexFuncS_spec (l : List ByteArray) (f : Nat) (caps : List AV) (g : ByteArray → Bool) (hl : l.length ≤ 1000000) (H : Hp) (hc : ∀ x ∈ l, ∀ H', Sub H H' → ACall Tryz.prog f ([.v (.string x)] ++ caps) H' (IsR H' (.v (.bool (g x))))) :
    ACall Tryz.prog 63 [strs l, .clo f caps] H (IsR H (.v (.int .i64 (oi (l.findIdx? g))))) := by
  have hml : (l.map encS).length = l.length := List.length_map ..
  refine UCall (n := 19) (H0 := H) (objs := []) Tryz.func63 (by kernel_rfl) rfl (by rw [Tryz.ntmps63]; rfl) .nil <| ?_
  refine Q.rg <| Q.as rfl <| Q.nt <| S.sq <| Q.rg <| Q.mv rfl <| S.qu (Z.lns sl23 rfl) <| Q.mv rfl <| Q.nt <| UW.block <| S.loop (fun k : Nat => [(8, .v (.int .i64 (k : Int))), (6, strs l), (7, .v (.int .i64 ((l.map encS).length : Int))), (0, strs l), (1, .clo f caps)]) (fun _ => []) (fun k => k ≤ l.length ∧ ∀ (j : Nat) (h : j < l.length), j < k → g l[j] = false) (fun k => l.length - k) 0 ⟨Nat.zero_le _, fun j _ h => absurd h (by omega)⟩ ⟨rfl, rfl, rfl, rfl, rfl, trivial⟩ (.refl _) <| ?_
  rintro k ⟨hk, hj⟩
  by_cases hlt : k < l.length
  · focus
      refine Q.rg <| Q.bi rfl rfl rfl <| Q.nt <| S.sq <| S.cT rfl (decide_eq_true (by omega)) <| UW.skip <| UQ.then <| S.sq <| UW.block <| Q.rg <| Q.mv rfl <| Q.as rfl <| Q.nt <| Q.rg <| Q.mv rfl <| Q.mv rfl <| Q.mv rfl <| S.qu (Z.ia sl23 rfl rfl (by omega) (strs_get _ _ (by omega)) rfl) <| S.qu (Z.lpc ty9 rfl) <| S.qu (Z.calld rfl rfl (fun hd => hc _ (List.getElem_mem hlt) _ (extH_sub hd))) <| Q.nt <| ?_
      refine S.cB rfl (fun hc0 => ?_) (fun hc0 => ?_)
      refine Q.rg <| Q.mv rfl <| Q.as rfl <| Q.nt <| UW.ret <| UQ.blockR <| UQ.passR <| UQ.passR <| UQ.blockR <| UQ.passR <| S.rtR (fun _ => res_tmp rfl rfl) <| ?_
      rotate_left
      refine UW.skip <| UQ.blockN <| UQ.then <| S.rg <| S.qu (Z.add (r := ((k + 1 : Nat) : Int)) rfl rfl (IntWalk.i64_in _ (by omega))) <| Q.mv rfl <| US.nil <| ?_
      refine S.back _ ⟨rfl, rfl, rfl, rfl, rfl, trivial⟩ (.refl _) ?_ (by omega)
      rotate_left
    · rw [(List.findIdx?_eq_some_iff_getElem).2 ⟨hlt, hc0, fun j hjk => by rw [hj j (by omega) hjk]; simp⟩]; rfl
    · refine ⟨by omega, fun j h3 h4 => ?_⟩
      by_cases hjk : j = k
      · subst hjk; exact hc0
      · exact hj j h3 (by omega)
  · refine Q.rg <| Q.bi rfl rfl rfl <| Q.nt <| S.sq <| S.cF rfl (decide_eq_false (by omega)) <| UW.exit <| UQ.pass <| UQ.pass <| UQ.here <| UQ.then <| Q.rg <| Q.as rfl <| Q.nt <| UW.ret <| S.rtR (fun _ => res_tmp rfl rfl) <| ?_
    rw [(List.findIdx?_eq_none_iff).2 (fun x hx => by
      obtain ⟨j, hj2, rfl⟩ := List.getElem_of_mem hx
      exact hj j hj2 (by omega))]; rfl
theorem with1_spec (k key : ByteArray) (p : Nat) (H : Hp) (hp : H p = some (.box 9 [.v (.string key)])) : ACall Tryz.prog 64 [.v (.string k), .ptr p 0] H (IsR H (.v (.bool (!(lessB k key))))) := by
  refine UCall (n := 8) (H0 := H) (objs := []) Tryz.func64 (by kernel_rfl) rfl (by rw [Tryz.ntmps64]; rfl) .nil <| ?_
  refine Q.rg <| Q.as rfl <| Q.nt <| Q.rg <| Q.mv rfl <| S.qu (Z.ldo (by assumption) ty9 rfl rfl) <| ?_
  refine S.qu (Z.call rfl rfl (fun _ => less_spec _ _ _)) <| S.qu (Z.not rfl) <| Q.as rfl <| Q.nt <| UW.ret <| S.rtR (fun _ => res_tmp rfl rfl) <| ?_
  rfl
/-- Where a key is to stand. -/
def insPos (ks : List ByteArray) (key : ByteArray) : Int := oi (ks.findIdx? fun k => !(lessB k key))
def insAtPos (ks : List ByteArray) (key : ByteArray) : Nat := if insPos ks key < 0 then ks.length else (insPos ks key).toNat
theorem insPos_le (ks : List ByteArray) (key : ByteArray) : insPos ks key ≤ ks.length := by
  unfold insPos
  cases h : ks.findIdx? (fun k => !(lessB k key)) with
  | none => show (-1 : Int) ≤ _; omega
  | some i =>
    have := (List.findIdx?_eq_some_iff_getElem.1 h).1
    show (i : Int) ≤ _; omega
theorem insAtPos_le (ks : List ByteArray) (key : ByteArray) : insAtPos ks key ≤ ks.length := by
  have := insPos_le ks key
  unfold insAtPos; split <;> omega
def objV (x : V) : V := if x.k = 5 then x else .mk 5 0 ⟨#[]⟩ [] []
def withV (x : V) (key : ByteArray) (y : V) : V := match pl (objV x) key with
  | some i => .mk (objV x).k (objV x).n (objV x).t (cutV (objV x)).ks ((cutV (objV x)).vs.set i y)
  | none => .mk (objV x).k (objV x).n (objV x).t (insAt (cutV (objV x)).ks (insAtPos (cutV (objV x)).ks key) key) (insAt (cutV (objV x)).vs (insAtPos (cutV (objV x)).ks key) y)
theorem Fits.obj {x : V} (h : Fits x) : Fits (objV x) := by
  unfold objV
  split
  · exact h
  · exact .mk _ _ _ _ _ (by decide) (by decide) (by simp)
theorem cut_lens (x : V) : (cutV x).ks.length = (cutV x).vs.length := by simp [cutV, V.ks, V.vs]
theorem drop_take_all {α : Type} (l : List α) (n : Nat) (h : l.length = n) : (l.drop 0).take n = l := by subst h; simp
theorem encVs_insAt (l : List V) (i : Nat) (x : V) : encVs (insAt l i x) = insAt (encVs l) i (encV x) := by simp [encVs_eq, insAt]
theorem place_at {x : V} {key : ByteArray} (hx : Fits x) {i : Nat} (hp : pl x key = some i) (H : Hp) : ACall Tryz.prog 61 [.agg (encV x), .v (.string key)] H (IsR H (.v (.int .i64 (i : Int)))) := by
  have := place_spec x key hx H; rw [hp] at this; exact this
theorem place_no {x : V} {key : ByteArray} (hx : Fits x) (hp : pl x key = none) (H : Hp) : ACall Tryz.prog 61 [.agg (encV x), .v (.string key)] H (IsR H (.v (.int .i64 (-1)))) := by
  have := place_spec x key hx H; rw [hp] at this; exact this
theorem insAt_set {α : Type} (l : List α) (i : Nat) (a b : α) (h : i ≤ l.length) : (insAt l i a).set i b = insAt l i b := by
  unfold insAt
  rw [List.set_append_right _ _ (by rw [List.length_take]; omega)]
  have : i - (l.take i).length = 0 := by rw [List.length_take]; omega
  rw [this]; rfl
theorem insertS_at (ks : List ByteArray) (key : ByteArray) (i : Nat) (hi : i ≤ ks.length) (hl : ks.length ≤ 1000000) (id id2 : Nat) (G : Hp) (hD : Dist G [(id, .row 9 1 (ks.map encS)), (id2, .row 9 1 [[.v (.string key)]])]) :
    ACall Tryz.prog 66 [.own id 0 ks.length 1, .v (.int .i64 (i : Int)), .own id2 0 1 1] (extH G [(id, .row 9 1 (ks.map encS)), (id2, .row 9 1 [[.v (.string key)]])])
      (fun u H' => ∃ news, Dist G news ∧ H' = extH G news ∧ ∃ id', u = .own id' 0 (ks.length + 1) 1 ∧ news = [(id', .row 9 1 ((insAt ks i key).map encS))]) := by
  have e1 : (ks.map encS).length = ks.length := List.length_map ..
  have := insertS_spec (ks.map encS) (strs_sz _) (by omega) (encS key) rfl i (by omega) id id2 G hD
  rw [e1] at this
  refine this.mono fun u H' ⟨news, h1, h2, id', h3, h4⟩ => ⟨news, h1, h2, id', by rw [h3, e1], ?_⟩
  rw [h4]; simp [insAt]
theorem insertV_at (vs : List V) (y : V) (i : Nat) (hi : i ≤ vs.length) (hl : vs.length ≤ 1000000) (id id2 : Nat) (G : Hp) (hD : Dist G [(id, .row 26 5 (encVs vs)), (id2, .row 26 5 [encV y])]) :
    ACall Tryz.prog 67 [.own id 0 vs.length 5, .v (.int .i64 (i : Int)), .own id2 0 1 5] (extH G [(id, .row 26 5 (encVs vs)), (id2, .row 26 5 [encV y])])
      (fun u H' => ∃ news, Dist G news ∧ H' = extH G news ∧ ∃ id', u = .own id' 0 (vs.length + 1) 5 ∧ news = [(id', .row 26 5 (encVs (insAt vs i y)))]) := by
  have e1 := encVs_len vs
  have := insertV_spec (encVs vs) (encVs_sz _) (by omega) (encV y) (encV_len _) i (by omega) id id2 G hD
  rw [e1] at this
  refine this.mono fun u H' ⟨news, h1, h2, id', h3, h4⟩ => ⟨news, h1, h2, id', by rw [h3, e1], ?_⟩
  rw [h4, encVs_insAt]
theorem idxS_none {ks : List ByteArray} {key : ByteArray} (hl : ks.length ≤ 1000000) (hf : ks.findIdx? (fun k => !(lessB k key)) = none) (p4 : Nat) (H : Hp) (hp : H p4 = some (.box 9 [.v (.string key)])) :
    ACall Tryz.prog 63 [strs ks, .clo 64 [.ptr p4 0]] H (IsR H (.v (.int .i64 (-1)))) := by
  have := indexFuncS_spec ks 64 [.ptr p4 0] (fun k => !(lessB k key)) hl H fun z _ H' hs => with1_spec z key p4 H' (hs _ _ hp)
  rw [hf] at this; exact this
theorem idxS_some {ks : List ByteArray} {key : ByteArray} (hl : ks.length ≤ 1000000) {i : Nat} (hf : ks.findIdx? (fun k => !(lessB k key)) = some i) (p4 : Nat) (H : Hp) (hp : H p4 = some (.box 9 [.v (.string key)])) :
    ACall Tryz.prog 63 [strs ks, .clo 64 [.ptr p4 0]] H (IsR H (.v (.int .i64 (i : Int)))) := by
  have := indexFuncS_spec ks 64 [.ptr p4 0] (fun k => !(lessB k key)) hl H fun z _ H' hs => with1_spec z key p4 H' (hs _ _ hp)
  rw [hf] at this; exact this
theorem vk (k n : Int) (t : ByteArray) (ks : List ByteArray) (vs : List V) : V.k (.mk k n t ks vs) = k := rfl
theorem vn (k n : Int) (t : ByteArray) (ks : List ByteArray) (vs : List V) : V.n (.mk k n t ks vs) = n := rfl
theorem vt (k n : Int) (t : ByteArray) (ks : List ByteArray) (vs : List V) : V.t (.mk k n t ks vs) = t := rfl
theorem vks (k n : Int) (t : ByteArray) (ks : List ByteArray) (vs : List V) : V.ks (.mk k n t ks vs) = ks := rfl
theorem vvs (k n : Int) (t : ByteArray) (ks : List ByteArray) (vs : List V) : V.vs (.mk k n t ks vs) = vs := rfl
theorem encVs_set (l : List V) (i : Nat) (y : V) : encVs (l.set i y) = (encVs l).set i (encV y) := by rw [encVs_eq, encVs_eq, List.map_set]
theorem with_a (x : V) (hx : Fits x) (key : ByteArray) (y : V) (hy : Fits y) (H : Hp) (i : Nat) (hk : x.k = 5) (hp : pl x key = some i) :
    ACall Tryz.prog 30 [.agg (encV x), .v (.string key), .agg (encV y)] H (OwnV H (.mk x.k x.n x.t (cutV x).ks ((cutV x).vs.set i y))) := by
  obtain ⟨k, n, t, ks, vs⟩ := x
  have hf : Fits (.mk k n t ks vs) := hx
  have hcf := hf.cut
  have hkl := hcf.ksl
  have hvl := hcf.vsl
  have hkv := cut_lens (.mk k n t ks vs)
  have hev := encVs_len (cutV (.mk k n t ks vs)).vs
  have hek : ((cutV (.mk k n t ks vs)).ks.map encS).length = (cutV (.mk k n t ks vs)).ks.length := List.length_map ..
  simp only [V.k] at hk
  have hi : i < (cutV (.mk k n t ks vs)).vs.length := by
    have h0 := pl_lt hp
    simp only [V.ks, V.vs] at h0
    simp only [cutV, V.ks, V.vs, List.length_take]; omega
  refine UCall (n := 49) (H0 := H) (objs := []) Tryz.func30 (by kernel_rfl) rfl (by rw [Tryz.ntmps30]; rfl) .nil <| ?_
  refine Q.rg <| S.dd <| D.box rfl rfl rfl fun p3 => S.dd <| D.box rfl rfl rfl fun p4 => S.dd <| D.box rfl rfl (by exact encV_cell _) fun p5 => ?_
  refine S.dd <| D.al z26 rfl rfl rfl fun p6 => Q.nt <| S.sq <| Q.rg <| Q.fa f26_0 rfl <| Q.lc 3 ty3 rfl rfl rfl <| Q.bi rfl rfl rfl <| Q.nt <| S.cF rfl (bne_f (by omega)) <| UW.skip <| UQ.then <| Q.rg <| S.qu (Z.ldw 3 ty26 rfl rfl rfl) <| Q.lc 2 ty9 rfl rfl rfl <| S.qu (Z.call rfl rfl (fun _ => place_at hf hp _)) <| Q.as rfl <| Q.nt <| Q.rg <| S.qu (Z.ldw 3 ty26 rfl rfl rfl) <| S.dd <| D.cn rfl rfl (fun _ => cut_spec (.mk k n t ks vs) hf _) <| ?_
  rintro _ _ ⟨pi, pj, rfl, rfl⟩
  refine S.s <| D.st 5 ty26 rfl rfl rfl rfl rfl rfl rfl rfl fun _ => Q.nt <| S.sq <| Q.rg <| Q.mv rfl <| Q.bi rfl rfl rfl <| Q.nt <| S.cF rfl (decide_eq_false (by omega)) <| UW.skip <| UQ.then <| S.sq <| ?_
  refine' UW.draw' (by kernel_rfl) [0, 1, 0, 0, 8, 31, 63] [some 42, some 43, some 44, some 45, some 46, some 47, none] [some (42, _), some (43, _), some (44, _), some (45, _), some (46, _), some (47, _), none] [6] [1, 3] rfl (by decide) (by decide) (QAll.free (by decide) rfl rfl ?q0_0 (QAll.held (by decide) rfl rfl ?q0_1 (QAll.free (by decide) rfl rfl ?q0_2 (QAll.held (by decide) rfl rfl ?q0_3 (QAll.free (by decide) rfl rfl ?q0_4 (QAll.free (by decide) rfl rfl ?q0_5 (QAll.skip QAll.nil))))))) ?q0_k
  case q0_0 => (intro _; exact Z.fa f26_4 rfl)
  case q0_1 => exact Z.ldc 5 ty24 rfl rfl rfl
  case q0_2 => (intro _; exact Z.mv rfl)
  case q0_3 => exact Z.ldw 3 ty26 rfl rfl (encV_len _)
  case q0_4 => (intro _; exact Z.call rfl rfl (fun _ => copyR_pure (copy_spec y hy _)))
  case q0_5 => (intro _; exact Z.io sl24 rfl rfl (by omega) (by omega))
  refine CH.cons0 rfl rfl <| D.str 0 ty26 rfl rfl rfl (by omega) rfl rfl (by exact encV_cell _) (encV_len _) (encVs_sz _) fun _ => ?_
  refine CH.nil <| ?_
  simp only [app, finL]
  refine UQ.then <| Q.rg <| S.qu (Z.ldw 5 ty26 rfl rfl rfl) <| S.s <| D.st 2 ty26 rfl rfl rfl rfl rfl rfl rfl rfl fun _ => Q.nt <| UW.ret <| ?_
  exact retR [_, _] (fun hd => res_cell (k := 2) hd rfl rfl rfl st26 sz26) (.cons_cons _ (.cons_cons _ (List.nil_sublist _))) fun hd => ⟨_, hd, rfl, _, _, _, _, by (rw [vk, vn, vt, vks, vvs, List.length_set]) <;> rfl, rfl, by rw [vks, List.length_map]; exact Nat.le_refl _, by rw [vks]; exact List.take_of_length_le (by rw [List.length_map]; exact Nat.le_refl _), by rw [vvs, List.length_set, List.length_set, encVs_len]; exact Nat.le_refl _, by rw [List.take_of_length_le (by rw [vvs, List.length_set, List.length_set, encVs_len]; exact Nat.le_refl _), Nat.zero_add, Int.toNat_natCast, ← encVs_set] <;> rfl⟩
theorem with_b (x : V) (hx : Fits x) (key : ByteArray) (y : V) (hy : Fits y) (H : Hp) (hk : x.k = 5) (hp : pl x key = none) (hff : (cutV x).ks.findIdx? (fun k => !(lessB k key)) = none) :
    ACall Tryz.prog 30 [.agg (encV x), .v (.string key), .agg (encV y)] H (OwnV H (.mk x.k x.n x.t (insAt (cutV x).ks (cutV x).ks.length key) (insAt (cutV x).vs (cutV x).ks.length y))) := by
  obtain ⟨k, n, t, ks, vs⟩ := x
  have hf : Fits (.mk k n t ks vs) := hx
  have hcf := hf.cut
  have hkl := hcf.ksl
  have hvl := hcf.vsl
  have hkv := cut_lens (.mk k n t ks vs)
  have hev := encVs_len (cutV (.mk k n t ks vs)).vs
  have hek : ((cutV (.mk k n t ks vs)).ks.map encS).length = (cutV (.mk k n t ks vs)).ks.length := List.length_map ..
  simp only [V.k] at hk
  have hi : (cutV (.mk k n t ks vs)).ks.length ≤ (cutV (.mk k n t ks vs)).ks.length := Nat.le_refl _
  have hi2 : (cutV (.mk k n t ks vs)).ks.length ≤ (cutV (.mk k n t ks vs)).vs.length := Nat.le_of_eq hkv
  have hev2 := (encVs_len (insAt (cutV (.mk k n t ks vs)).vs (cutV (.mk k n t ks vs)).ks.length zeroV)).trans (insAt_len _ _ _ hi2)
  refine UCall (n := 49) (H0 := H) (objs := []) Tryz.func30 (by kernel_rfl) rfl (by rw [Tryz.ntmps30]; rfl) .nil <| ?_
  refine Q.rg <| S.dd <| D.box rfl rfl rfl fun p3 => S.dd <| D.box rfl rfl rfl fun p4 => S.dd <| D.box rfl rfl (by exact encV_cell _) fun p5 => ?_
  refine S.dd <| D.al z26 rfl rfl rfl fun p6 => Q.nt <| S.sq <| Q.rg <| Q.fa f26_0 rfl <| Q.lc 3 ty3 rfl rfl rfl <| Q.bi rfl rfl rfl <| Q.nt <| S.cF rfl (bne_f (by omega)) <| UW.skip <| UQ.then <| Q.rg <| S.qu (Z.ldw 3 ty26 rfl rfl rfl) <| Q.lc 2 ty9 rfl rfl rfl <| S.qu (Z.call rfl rfl (fun _ => place_no hf hp _)) <| Q.as rfl <| Q.nt <| Q.rg <| S.qu (Z.ldw 3 ty26 rfl rfl rfl) <| S.dd <| D.cn rfl rfl (fun _ => cut_spec (.mk k n t ks vs) hf _) <| ?_
  rintro _ _ ⟨pi, pj, rfl, rfl⟩
  refine S.s <| D.st 5 ty26 rfl rfl rfl rfl rfl rfl rfl rfl fun _ => Q.nt <| S.sq <| Q.rg <| Q.mv rfl <| Q.bi rfl rfl rfl <| Q.nt <| S.cT rfl (decide_eq_true (by omega)) <| Q.rg <| Q.fa f26_3 rfl <| Q.lc 5 ty23 rfl rfl rfl <| S.qu (Z.mf rfl) <| S.qu (Z.cbw [(p4, .box 9 [.v (.string key)])] (.cons _ (.cons _ (.cons _ (.cons _ (.cons_cons _ (List.nil_sublist _)))))) rfl rfl rfl (.own (k := 1) rfl (by omega) (drop_take_all _ _ hek) (.keep .nil)) (fun hd => idxS_none hkl hff p4 _ (hd.at_ (k := 0) rfl))) <| Q.as rfl <| Q.nt <| S.sq <| Q.rg <| Q.mv rfl <| Q.bi rfl rfl rfl <| Q.nt <| S.cT rfl (decide_eq_true (by omega)) <| S.rg <| Q.fa f26_3 rfl <| Q.lc 5 ty23 rfl rfl rfl <| S.qu (Z.lno sl23 rfl) <| Q.as rfl <| Q.nt <| Q.rg <| Q.fa f26_3 rfl <| Q.lc 5 ty23 rfl rfl rfl <| Q.mv rfl <| Q.lc 4 ty9 rfl rfl rfl <| S.dd <| D.lit row23 rfl rfl (lit_ok rfl) fun p32 => S.dd <| D.co (.cons 2 rfl (.cons 0 rfl .nil)) rfl rfl (fun G hD => insertS_at (cutV (.mk k n t ks vs)).ks key (cutV (.mk k n t ks vs)).ks.length (by omega) hkl _ _ G hD) <| ?_
  rintro _ _ ⟨pk, rfl, rfl⟩
  refine Q.fa f26_3 rfl <| S.s <| D.st 5 ty23 rfl rfl rfl rfl rfl rfl rfl rfl fun _ => Q.nt <| S.rg <| Q.fa f26_4 rfl <| Q.lc 5 ty24 rfl rfl rfl <| Q.mv rfl <| S.qu (Z.bd [] bt26 rfl rfl rfl rfl rfl rfl) <| S.dd <| D.lit row24 rfl rfl (lit_ok rfl) fun p39 => S.dd <| D.co (.cons 2 rfl (.cons 0 rfl .nil)) rfl rfl (fun G hD => insertV_at (cutV (.mk k n t ks vs)).vs zeroV (cutV (.mk k n t ks vs)).ks.length (by omega) hvl _ _ G hD) <| ?_
  rintro _ _ ⟨pv, rfl, rfl⟩
  refine Q.fa f26_4 rfl <| S.s <| D.st 5 ty24 rfl rfl rfl rfl rfl rfl rfl rfl fun _ => Q.nt <| S.sq <| ?_
  refine' UW.draw' (by kernel_rfl) [0, 1, 0, 0, 8, 31, 63] [some 42, some 43, some 44, some 45, some 46, some 47, none] [some (42, _), some (43, _), some (44, _), some (45, _), some (46, _), some (47, _), none] [6] [1, 3] rfl (by decide) (by decide) (QAll.free (by decide) rfl rfl ?q0_0 (QAll.held (by decide) rfl rfl ?q0_1 (QAll.free (by decide) rfl rfl ?q0_2 (QAll.held (by decide) rfl rfl ?q0_3 (QAll.free (by decide) rfl rfl ?q0_4 (QAll.free (by decide) rfl rfl ?q0_5 (QAll.skip QAll.nil))))))) ?q0_k
  case q0_0 => (intro _; exact Z.fa f26_4 rfl)
  case q0_1 => exact Z.ldc 5 ty24 rfl rfl rfl
  case q0_2 => (intro _; exact Z.mv rfl)
  case q0_3 => exact Z.ldw 3 ty26 rfl rfl (encV_len _)
  case q0_4 => (intro _; exact Z.call rfl rfl (fun _ => copyR_pure (copy_spec y hy _)))
  case q0_5 => (intro _; exact Z.io sl24 rfl rfl (by omega) (by omega))
  refine CH.cons0 rfl rfl <| D.str 0 ty26 rfl rfl rfl (by omega) rfl rfl (by exact encV_cell _) (encV_len _) (encVs_sz _) fun _ => ?_
  refine CH.nil <| ?_
  simp only [app, finL]
  refine UQ.then <| Q.rg <| S.qu (Z.ldw 5 ty26 rfl rfl rfl) <| S.s <| D.st 2 ty26 rfl rfl rfl rfl rfl rfl rfl rfl fun _ => Q.nt <| UW.ret <| ?_
  exact retR [_, _] (fun hd => res_cell (k := 2) hd rfl rfl rfl st26 sz26) (.cons_cons _ (.cons_cons _ (List.nil_sublist _))) fun hd => ⟨_, hd, rfl, _, _, _, _, by (rw [vk, vn, vt, vks, vvs, insAt_len _ _ _ hi, insAt_len _ _ _ hi2]) <;> rfl, rfl, by rw [vks, List.length_map]; exact Nat.le_refl _, by rw [vks]; exact List.take_of_length_le (by rw [List.length_map]; exact Nat.le_refl _), by rw [vvs, List.length_set, encVs_len, insAt_len _ _ _ hi2, insAt_len _ _ _ hi2]; exact Nat.le_refl _, by rw [List.take_of_length_le (by rw [vvs, List.length_set, encVs_len, insAt_len _ _ _ hi2, insAt_len _ _ _ hi2]; exact Nat.le_refl _), Nat.zero_add, Int.toNat_natCast, ← encVs_set, insAt_set _ _ _ _ hi2] <;> rfl⟩
theorem with_c (x : V) (hx : Fits x) (key : ByteArray) (y : V) (hy : Fits y) (H : Hp) (i : Nat) (hk : x.k = 5) (hp : pl x key = none) (hff : (cutV x).ks.findIdx? (fun k => !(lessB k key)) = some i) :
    ACall Tryz.prog 30 [.agg (encV x), .v (.string key), .agg (encV y)] H (OwnV H (.mk x.k x.n x.t (insAt (cutV x).ks i key) (insAt (cutV x).vs i y))) := by
  obtain ⟨k, n, t, ks, vs⟩ := x
  have hf : Fits (.mk k n t ks vs) := hx
  have hcf := hf.cut
  have hkl := hcf.ksl
  have hvl := hcf.vsl
  have hkv := cut_lens (.mk k n t ks vs)
  have hev := encVs_len (cutV (.mk k n t ks vs)).vs
  have hek : ((cutV (.mk k n t ks vs)).ks.map encS).length = (cutV (.mk k n t ks vs)).ks.length := List.length_map ..
  simp only [V.k] at hk
  have hi : i ≤ (cutV (.mk k n t ks vs)).ks.length := Nat.le_of_lt (List.findIdx?_eq_some_iff_getElem.1 hff).1
  have hi2 := hkv ▸ hi
  have hev2 := (encVs_len (insAt (cutV (.mk k n t ks vs)).vs i zeroV)).trans (insAt_len _ _ _ hi2)
  refine UCall (n := 49) (H0 := H) (objs := []) Tryz.func30 (by kernel_rfl) rfl (by rw [Tryz.ntmps30]; rfl) .nil <| ?_
  refine Q.rg <| S.dd <| D.box rfl rfl rfl fun p3 => S.dd <| D.box rfl rfl rfl fun p4 => S.dd <| D.box rfl rfl (by exact encV_cell _) fun p5 => ?_
  refine S.dd <| D.al z26 rfl rfl rfl fun p6 => Q.nt <| S.sq <| Q.rg <| Q.fa f26_0 rfl <| Q.lc 3 ty3 rfl rfl rfl <| Q.bi rfl rfl rfl <| Q.nt <| S.cF rfl (bne_f (by omega)) <| UW.skip <| UQ.then <| Q.rg <| S.qu (Z.ldw 3 ty26 rfl rfl rfl) <| Q.lc 2 ty9 rfl rfl rfl <| S.qu (Z.call rfl rfl (fun _ => place_no hf hp _)) <| Q.as rfl <| Q.nt <| Q.rg <| S.qu (Z.ldw 3 ty26 rfl rfl rfl) <| S.dd <| D.cn rfl rfl (fun _ => cut_spec (.mk k n t ks vs) hf _) <| ?_
  rintro _ _ ⟨pi, pj, rfl, rfl⟩
  refine S.s <| D.st 5 ty26 rfl rfl rfl rfl rfl rfl rfl rfl fun _ => Q.nt <| S.sq <| Q.rg <| Q.mv rfl <| Q.bi rfl rfl rfl <| Q.nt <| S.cT rfl (decide_eq_true (by omega)) <| Q.rg <| Q.fa f26_3 rfl <| Q.lc 5 ty23 rfl rfl rfl <| S.qu (Z.mf rfl) <| S.qu (Z.cbw [(p4, .box 9 [.v (.string key)])] (.cons _ (.cons _ (.cons _ (.cons _ (.cons_cons _ (List.nil_sublist _)))))) rfl rfl rfl (.own (k := 1) rfl (by omega) (drop_take_all _ _ hek) (.keep .nil)) (fun hd => idxS_some hkl hff p4 _ (hd.at_ (k := 0) rfl))) <| Q.as rfl <| Q.nt <| S.sq <| Q.rg <| Q.mv rfl <| Q.bi rfl rfl rfl <| Q.nt <| S.cF rfl (decide_eq_false (by omega)) <| UW.skip <| UQ.then <| Q.rg <| Q.fa f26_3 rfl <| Q.lc 5 ty23 rfl rfl rfl <| Q.mv rfl <| Q.lc 4 ty9 rfl rfl rfl <| S.dd <| D.lit row23 rfl rfl (lit_ok rfl) fun p32 => S.dd <| D.co (.cons 2 rfl (.cons 0 rfl .nil)) rfl rfl (fun G hD => insertS_at (cutV (.mk k n t ks vs)).ks key i (by omega) hkl _ _ G hD) <| ?_
  rintro _ _ ⟨pk, rfl, rfl⟩
  refine Q.fa f26_3 rfl <| S.s <| D.st 5 ty23 rfl rfl rfl rfl rfl rfl rfl rfl fun _ => Q.nt <| S.rg <| Q.fa f26_4 rfl <| Q.lc 5 ty24 rfl rfl rfl <| Q.mv rfl <| S.qu (Z.bd [] bt26 rfl rfl rfl rfl rfl rfl) <| S.dd <| D.lit row24 rfl rfl (lit_ok rfl) fun p39 => S.dd <| D.co (.cons 2 rfl (.cons 0 rfl .nil)) rfl rfl (fun G hD => insertV_at (cutV (.mk k n t ks vs)).vs zeroV i (by omega) hvl _ _ G hD) <| ?_
  rintro _ _ ⟨pv, rfl, rfl⟩
  refine Q.fa f26_4 rfl <| S.s <| D.st 5 ty24 rfl rfl rfl rfl rfl rfl rfl rfl fun _ => Q.nt <| S.sq <| ?_
  refine' UW.draw' (by kernel_rfl) [0, 1, 0, 0, 8, 31, 63] [some 42, some 43, some 44, some 45, some 46, some 47, none] [some (42, _), some (43, _), some (44, _), some (45, _), some (46, _), some (47, _), none] [6] [1, 3] rfl (by decide) (by decide) (QAll.free (by decide) rfl rfl ?q0_0 (QAll.held (by decide) rfl rfl ?q0_1 (QAll.free (by decide) rfl rfl ?q0_2 (QAll.held (by decide) rfl rfl ?q0_3 (QAll.free (by decide) rfl rfl ?q0_4 (QAll.free (by decide) rfl rfl ?q0_5 (QAll.skip QAll.nil))))))) ?q0_k
  case q0_0 => (intro _; exact Z.fa f26_4 rfl)
  case q0_1 => exact Z.ldc 5 ty24 rfl rfl rfl
  case q0_2 => (intro _; exact Z.mv rfl)
  case q0_3 => exact Z.ldw 3 ty26 rfl rfl (encV_len _)
  case q0_4 => (intro _; exact Z.call rfl rfl (fun _ => copyR_pure (copy_spec y hy _)))
  case q0_5 => (intro _; exact Z.io sl24 rfl rfl (by omega) (by omega))
  refine CH.cons0 rfl rfl <| D.str 0 ty26 rfl rfl rfl (by omega) rfl rfl (by exact encV_cell _) (encV_len _) (encVs_sz _) fun _ => ?_
  refine CH.nil <| ?_
  simp only [app, finL]
  refine UQ.then <| Q.rg <| S.qu (Z.ldw 5 ty26 rfl rfl rfl) <| S.s <| D.st 2 ty26 rfl rfl rfl rfl rfl rfl rfl rfl fun _ => Q.nt <| UW.ret <| ?_
  exact retR [_, _] (fun hd => res_cell (k := 2) hd rfl rfl rfl st26 sz26) (.cons_cons _ (.cons_cons _ (List.nil_sublist _))) fun hd => ⟨_, hd, rfl, _, _, _, _, by (rw [vk, vn, vt, vks, vvs, insAt_len _ _ _ hi, insAt_len _ _ _ hi2]) <;> rfl, rfl, by rw [vks, List.length_map]; exact Nat.le_refl _, by rw [vks]; exact List.take_of_length_le (by rw [List.length_map]; exact Nat.le_refl _), by rw [vvs, List.length_set, encVs_len, insAt_len _ _ _ hi2, insAt_len _ _ _ hi2]; exact Nat.le_refl _, by rw [List.take_of_length_le (by rw [vvs, List.length_set, encVs_len, insAt_len _ _ _ hi2, insAt_len _ _ _ hi2]; exact Nat.le_refl _), Nat.zero_add, Int.toNat_natCast, ← encVs_set, insAt_set _ _ _ _ hi2] <;> rfl⟩
theorem with_d (x : V) (hx : Fits x) (key : ByteArray) (y : V) (hy : Fits y) (H : Hp) (hk : ¬ x.k = 5) :
    ACall Tryz.prog 30 [.agg (encV x), .v (.string key), .agg (encV y)] H (OwnV H (.mk 5 0 ⟨#[]⟩ [key] [y])) := by
  obtain ⟨k, n, t, ks, vs⟩ := x
  have hf : Fits (.mk 5 0 ⟨#[]⟩ [] []) := .mk _ _ _ _ _ (by decide) (by decide) (by simp)
  have hcf := hf.cut
  have hkl := hcf.ksl
  have hvl := hcf.vsl
  have hkv := cut_lens (.mk 5 0 ⟨#[]⟩ [] [])
  have hev := encVs_len (cutV (.mk 5 0 ⟨#[]⟩ [] [])).vs
  have hek : ((cutV (.mk 5 0 ⟨#[]⟩ [] [])).ks.map encS).length = (cutV (.mk 5 0 ⟨#[]⟩ [] [])).ks.length := List.length_map ..
  simp only [V.k] at hk
  have hp : pl (.mk 5 0 ⟨#[]⟩ [] []) key = none := rfl
  have hff : (cutV (.mk 5 0 ⟨#[]⟩ [] [])).ks.findIdx? (fun k => !(lessB k key)) = none := rfl
  have hi : (cutV (.mk 5 0 ⟨#[]⟩ [] [])).ks.length ≤ (cutV (.mk 5 0 ⟨#[]⟩ [] [])).ks.length := Nat.le_refl _
  have hi2 : (cutV (.mk 5 0 ⟨#[]⟩ [] [])).ks.length ≤ (cutV (.mk 5 0 ⟨#[]⟩ [] [])).vs.length := Nat.le_of_eq hkv
  have hev2 := (encVs_len (insAt (cutV (.mk 5 0 ⟨#[]⟩ [] [])).vs (cutV (.mk 5 0 ⟨#[]⟩ [] [])).ks.length zeroV)).trans (insAt_len _ _ _ hi2)
  refine UCall (n := 49) (H0 := H) (objs := []) Tryz.func30 (by kernel_rfl) rfl (by rw [Tryz.ntmps30]; rfl) .nil <| ?_
  refine Q.rg <| S.dd <| D.box rfl rfl rfl fun p3 => S.dd <| D.box rfl rfl rfl fun p4 => S.dd <| D.box rfl rfl (by exact encV_cell _) fun p5 => ?_
  refine S.dd <| D.al z26 rfl rfl rfl fun p6 => Q.nt <| S.sq <| Q.rg <| Q.fa f26_0 rfl <| Q.lc 3 ty3 rfl rfl rfl <| Q.bi rfl rfl rfl <| Q.nt <| S.cT rfl (bne_t (by omega)) <| S.rg <| S.qu (Z.bd [0] bt26 rfl rfl rfl rfl rfl rfl) <| S.s <| D.st 3 ty26 rfl rfl rfl rfl rfl rfl rfl rfl fun _ => Q.nt <| Q.rg <| S.qu (Z.ldw 3 ty26 rfl rfl rfl) <| Q.lc 2 ty9 rfl rfl rfl <| S.qu (Z.call rfl rfl (fun _ => place_no hf hp _)) <| Q.as rfl <| Q.nt <| Q.rg <| S.qu (Z.ldw 3 ty26 rfl rfl rfl) <| S.dd <| D.cn rfl rfl (fun _ => cut_spec (.mk 5 0 ⟨#[]⟩ [] []) hf _) <| ?_
  rintro _ _ ⟨pi, pj, rfl, rfl⟩
  refine S.s <| D.st 5 ty26 rfl rfl rfl rfl rfl rfl rfl rfl fun _ => Q.nt <| S.sq <| Q.rg <| Q.mv rfl <| Q.bi rfl rfl rfl <| Q.nt <| S.cT rfl (decide_eq_true (by omega)) <| Q.rg <| Q.fa f26_3 rfl <| Q.lc 5 ty23 rfl rfl rfl <| S.qu (Z.mf rfl) <| S.qu (Z.cbw [(p4, .box 9 [.v (.string key)])] (.cons _ (.cons _ (.cons _ (.cons _ (.cons_cons _ (List.nil_sublist _)))))) rfl rfl rfl (.own (k := 1) rfl (by omega) (drop_take_all _ _ hek) (.keep .nil)) (fun hd => idxS_none hkl hff p4 _ (hd.at_ (k := 0) rfl))) <| Q.as rfl <| Q.nt <| S.sq <| Q.rg <| Q.mv rfl <| Q.bi rfl rfl rfl <| Q.nt <| S.cT rfl (decide_eq_true (by omega)) <| S.rg <| Q.fa f26_3 rfl <| Q.lc 5 ty23 rfl rfl rfl <| S.qu (Z.lno sl23 rfl) <| Q.as rfl <| Q.nt <| Q.rg <| Q.fa f26_3 rfl <| Q.lc 5 ty23 rfl rfl rfl <| Q.mv rfl <| Q.lc 4 ty9 rfl rfl rfl <| S.dd <| D.lit row23 rfl rfl (lit_ok rfl) fun p32 => S.dd <| D.co (.cons 2 rfl (.cons 0 rfl .nil)) rfl rfl (fun G hD => insertS_at (cutV (.mk 5 0 ⟨#[]⟩ [] [])).ks key (cutV (.mk 5 0 ⟨#[]⟩ [] [])).ks.length (by omega) hkl _ _ G hD) <| ?_
  rintro _ _ ⟨pk, rfl, rfl⟩
  refine Q.fa f26_3 rfl <| S.s <| D.st 5 ty23 rfl rfl rfl rfl rfl rfl rfl rfl fun _ => Q.nt <| S.rg <| Q.fa f26_4 rfl <| Q.lc 5 ty24 rfl rfl rfl <| Q.mv rfl <| S.qu (Z.bd [] bt26 rfl rfl rfl rfl rfl rfl) <| S.dd <| D.lit row24 rfl rfl (lit_ok rfl) fun p39 => S.dd <| D.co (.cons 2 rfl (.cons 0 rfl .nil)) rfl rfl (fun G hD => insertV_at (cutV (.mk 5 0 ⟨#[]⟩ [] [])).vs zeroV (cutV (.mk 5 0 ⟨#[]⟩ [] [])).ks.length (by omega) hvl _ _ G hD) <| ?_
  rintro _ _ ⟨pv, rfl, rfl⟩
  refine Q.fa f26_4 rfl <| S.s <| D.st 5 ty24 rfl rfl rfl rfl rfl rfl rfl rfl fun _ => Q.nt <| S.sq <| ?_
  refine' UW.draw' (by kernel_rfl) [0, 1, 0, 0, 8, 31, 63] [some 42, some 43, some 44, some 45, some 46, some 47, none] [some (42, _), some (43, _), some (44, _), some (45, _), some (46, _), some (47, _), none] [6] [1, 3] rfl (by decide) (by decide) (QAll.free (by decide) rfl rfl ?q0_0 (QAll.held (by decide) rfl rfl ?q0_1 (QAll.free (by decide) rfl rfl ?q0_2 (QAll.held (by decide) rfl rfl ?q0_3 (QAll.free (by decide) rfl rfl ?q0_4 (QAll.free (by decide) rfl rfl ?q0_5 (QAll.skip QAll.nil))))))) ?q0_k
  case q0_0 => (intro _; exact Z.fa f26_4 rfl)
  case q0_1 => exact Z.ldc 5 ty24 rfl rfl rfl
  case q0_2 => (intro _; exact Z.mv rfl)
  case q0_3 => exact Z.ldw 3 ty26 rfl rfl (encV_len _)
  case q0_4 => (intro _; exact Z.call rfl rfl (fun _ => copyR_pure (copy_spec y hy _)))
  case q0_5 => (intro _; exact Z.io sl24 rfl rfl (by omega) (by omega))
  refine CH.cons0 rfl rfl <| D.str 0 ty26 rfl rfl rfl (by omega) rfl rfl (by exact encV_cell _) (encV_len _) (encVs_sz _) fun _ => ?_
  refine CH.nil <| ?_
  simp only [app, finL]
  refine UQ.then <| Q.rg <| S.qu (Z.ldw 5 ty26 rfl rfl rfl) <| S.s <| D.st 2 ty26 rfl rfl rfl rfl rfl rfl rfl rfl fun _ => Q.nt <| UW.ret <| ?_
  exact retR [_, _] (fun hd => res_cell (k := 2) hd rfl rfl rfl st26 sz26) (.cons_cons _ (.cons_cons _ (List.nil_sublist _))) fun hd => ⟨_, hd, rfl, _, _, _, _, rfl, rfl, Nat.le_refl _, rfl, Nat.le_refl _, rfl⟩
theorem with_own (x : V) (hx : Fits x) (key : ByteArray) (y : V) (hy : Fits y) (H : Hp) :
    ACall Tryz.prog 30 [.agg (encV x), .v (.string key), .agg (encV y)] H (OwnV H (withV x key y)) := by
  by_cases hk : x.k = 5
  · have e1 : objV x = x := by unfold objV; rw [if_pos hk]
    unfold withV
    rw [e1]
    cases hp : pl x key with
    | some i => exact with_a x hx key y hy H i hk hp
    | none =>
      cases hff : (cutV x).ks.findIdx? (fun k => !(lessB k key)) with
      | none =>
        have := with_b x hx key y hy H hk hp hff
        have e2 : insAtPos (cutV x).ks key = (cutV x).ks.length := by unfold insAtPos insPos; rw [hff]; rfl
        rw [← e2] at this; exact this
      | some i =>
        have := with_c x hx key y hy H i hk hp hff
        have e2 : insAtPos (cutV x).ks key = i := by
          unfold insAtPos insPos; rw [hff]
          show (if (i : Int) < 0 then _ else (i : Int).toNat) = i
          rw [if_neg (by omega)]; rfl
        rw [← e2] at this; exact this
  · have e1 : objV x = .mk 5 0 ⟨#[]⟩ [] [] := by unfold objV; rw [if_neg hk]
    unfold withV
    rw [e1]
    exact with_d x hx key y hy H hk
theorem with_spec (x : V) (hx : Fits x) (key : ByteArray) (y : V) (hy : Fits y) (H : Hp) :
    ACall Tryz.prog 30 [.agg (encV x), .v (.string key), .agg (encV y)] H (IsR H (.agg (encV (withV x key y)))) := ownV_pure (with_own x hx key y hy H)
end Go.Proofs.YtgmfgmbgmjbdhaaGreatDoor
end
section
namespace Go.Proofs.YtgmfgmbgmjbdhaaGreatDoor
open Go Go.RowKit Go.Eng
set_option maxRecDepth 100000
set_option linter.unusedSimpArgs false
set_option linter.unusedVariables false
def numberV (x : V) : Bool := if x.k = 1 then (x.n == 0 || x.n == 1) else if x.k = 2 then (decide (-9007199254740991 ≤ x.n) && decide (x.n ≤ 9007199254740991)) else (x.n == 0)
/-- May the key at k stand there? -/
def okKey (ks : List ByteArray) (k : Nat) : Bool := decide (chk (ks.getD k ⟨#[]⟩) < 0) && (decide (k = 0) || decide (cmpB (ks.getD (k - 1) ⟨#[]⟩) (ks.getD k ⟨#[]⟩) < 0))
def keyedV (x : V) : Bool := if x.k = 5 then (List.range x.ks.length).all (okKey x.ks) && ((x.ks.length : Int) == (x.vs.length : Int)) else ((x.ks.length : Int) == 0)
theorem strs_before (l : List ByteArray) (k : Nat) (h : k < l.length) (h0 : 0 < k) : (l.map encS)[((k : Int) - 1).toNat]? = some (encS (l.getD (k - 1) ⟨#[]⟩)) := by
  have e : ((k : Int) - 1).toNat = k - 1 := by omega
  rw [e, strs_get l (k - 1) (by omega), getD_at (by omega)]
end Go.Proofs.YtgmfgmbgmjbdhaaGreatDoor
end
section
namespace Go.Proofs.YtgmfgmbgmjbdhaaGreatDoor
open Go Go.RowKit Go.Eng
set_option maxRecDepth 100000
set_option linter.unusedSimpArgs false
set_option linter.unusedVariables false
mutual
/-- What is right. -/
def rightV : V → Bool
  | .mk k n t ks vs => (decide (0 ≤ k) && decide (k ≤ 5) && numberV (.mk k n t ks vs) && keyedV (.mk k n t ks vs)) && !(!(t.toList == (⟨#[]⟩ : ByteArray).toList) && (!(k == 3) || decide (0 ≤ chk t))) && !(decide (k < 4) && decide ((0 : Int) < vs.length)) && rightsV vs
def rightsV : List V → Bool
  | [] => true
  | x :: r => rightV x && rightsV r
end
theorem rightsV_eq : ∀ l : List V, rightsV l = !l.any (fun x => !rightV x)
  | [] => rfl
  | x :: r => by rw [rightsV, rightsV_eq r]; simp
end Go.Proofs.YtgmfgmbgmjbdhaaGreatDoor
end
section
namespace Go.Proofs.YtgmfgmbgmjbdhaaGreatDoor
open Go Go.RowKit Go.Eng
set_option maxRecDepth 100000
set_option linter.unusedSimpArgs false
set_option linter.unusedVariables false
def numV (n : Int) : V := .mk 2 n ⟨#[]⟩ [] []
theorem fits_num (n : Int) : Fits (numV n) := .mk _ _ _ _ _ (by decide) (by decide) (by simp)
end Go.Proofs.YtgmfgmbgmjbdhaaGreatDoor
end
