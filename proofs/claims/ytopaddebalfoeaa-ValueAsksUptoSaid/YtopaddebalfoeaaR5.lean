/- The document's answers of layer 2: what they compute: places, reading, putting in, taking out. -/
import Derived.Test.YtopaddebalfoeaaR4
namespace Go.Proofs.Ytopaddebalfoeaa
open Go Go.RowKit Go.Eng
set_option linter.unusedSimpArgs false
set_option linter.unusedVariables false
set_option maxRecDepth 100000
theorem pl_at {k n : Int} {t : ByteArray} {ks : List ByteArray} {vs : List V} {key : ByteArray} (hk : k = 5) {j : Nat} (hj : j < ks.length) (h : ks[j].toList = key.toList) (hb : ∀ i (h : i < ks.length), i < j → ¬ ks[i].toList = key.toList) : pl (.mk k n t ks vs) key = if j < vs.length then some j else none := by
  unfold pl
  simp only [V.k, V.ks, V.vs, hk, if_true]
  rw [keyIdx_at hj (by simp [h]) (fun i h1 h2 => by simpa using fun h3 => hb i h1 h2 h3.symm)]
  rfl
theorem pl_none {k n : Int} {t : ByteArray} {ks : List ByteArray} {vs : List V} {key : ByteArray} (hb : ∀ i (h : i < ks.length), ¬ ks[i].toList = key.toList) : pl (.mk k n t ks vs) key = none := by
  unfold pl
  split
  · simp only [V.ks]
    rw [keyIdx_none (fun i h1 => by simpa using fun h3 => hb i h1 h3.symm)]
  · rfl
theorem pl_kind {k n : Int} {t : ByteArray} {ks : List ByteArray} {vs : List V} {key : ByteArray} (hk : ¬ k = 5) : pl (.mk k n t ks vs) key = none := by
  unfold pl
  rw [if_neg (by simpa [V.k] using hk)]
theorem placeR_spec (x : V) (key : ByteArray) (hx : Fits x) (H : Hp) : ACall Try.prog 75 [.agg (encV x), .v (.string key)] H (IsR H (.v (.int .i64 (oi (pl x key))))) := by
  have hkl0 := hx.ksl
  obtain ⟨k, n, t, ks, vs⟩ := x
  simp only [V.ks] at hkl0
  have hml : (ks.map encS).length = ks.length := List.length_map ..
  have hvl := encVs_len vs
  refine UCall (n := 29) (H0 := H) (objs := []) Try.func75 (by kernel_rfl) rfl (by rw [Try.ntmps75]; rfl) .nil <| ?_
  refine Q.rg <| S.dd <| D.box rfl rfl rfl fun p2 => Q.as rfl <| Q.nt <| S.sq <| Q.rg <| Q.fa f27_0 rfl <| Q.lc 0 ty3 rfl rfl rfl <| Q.bi rfl rfl rfl <| Q.nt <| ?_
  refine S.cO rfl (fun hc8 => ?_) (fun hc8 => ?_)
  refine Q.rg <| Q.as rfl <| Q.nt <| UW.ret <| UQ.passR <| S.rtR (fun _ => res_tmp rfl rfl) <| ?_
  focus (rw [pl_kind (by assumption)]; rfl; done)
  refine UW.skip <| UQ.then <| S.sq <| Q.rg <| Q.as rfl <| Q.nt <| UW.block <| S.loop (fun j : Nat => [(5, .v (.int .i64 (j : Int))), (1, .v (.string key)), (2, .ptr p2 0)]) (fun _ => [(p2, .box 27 (encV (.mk k n t ks vs)))]) (fun j => j ≤ ks.length ∧ ∀ i (h : i < ks.length), i < j → ¬ ks[i].toList = key.toList) (fun j => ks.length - j) 0 ⟨Nat.zero_le _, fun i _ h => absurd h (by omega)⟩ ⟨rfl, rfl, rfl, trivial⟩ (.refl _) <| ?_
  rintro j ⟨hj, hjj⟩
  by_cases hlt : j < ks.length
  · have hgl := strs_get ks j hlt
    refine S.sq <| Q.rg <| Q.mv rfl <| Q.fa f27_3 rfl <| Q.lc 0 ty24 rfl rfl rfl <| S.qu (Z.lns sl24 rfl) <| Q.bi rfl rfl rfl <| Q.nt <| S.cT rfl (decide_eq_true (by omega)) <| UW.skip <| UQ.then <| S.sq <| UW.block <| Q.rg <| Q.fa f27_3 rfl <| Q.lc 0 ty24 rfl rfl rfl <| Q.mv rfl <| S.qu (Z.ia sl24 rfl rfl (by omega) (by assumption) (by rfl)) <| ?_
    refine S.qu (Z.lpc ty9 rfl) <| Q.mv rfl <| S.qu (Z.bs rfl rfl rfl) <| Q.nt <| ?_
    refine S.cE rfl (fun hc22 => ?_) (fun hc22 => ?_)
    refine S.sq <| Q.rg <| Q.mv rfl <| Q.fa f27_4 rfl <| Q.lc 0 ty25 rfl rfl rfl <| S.qu (Z.lns sl25 rfl) <| Q.bi rfl rfl rfl <| Q.nt <| ?_
    refine S.cD rfl (fun hc27 => ?_) (fun hc27 => ?_)
    refine Q.rg <| Q.as rfl <| Q.nt <| UW.ret <| UQ.passR <| UQ.blockR <| UQ.passR <| UQ.passR <| UQ.blockR <| UQ.passR <| S.rtR (fun _ => res_tmp rfl rfl) <| ?_
    focus (rw [pl_at (by omega) hlt hc22 hjj, if_neg (by omega)]; rfl; done)
    refine UW.skip <| UQ.then <| Q.rg <| Q.mv rfl <| Q.as rfl <| Q.nt <| UW.ret <| UQ.blockR <| UQ.passR <| UQ.passR <| UQ.blockR <| UQ.passR <| S.rtR (fun _ => res_tmp rfl rfl) <| ?_
    focus (rw [pl_at (by omega) hlt hc22 hjj, if_pos (by omega)]; rfl; done)
    refine UW.skip <| UQ.blockN <| UQ.then <| S.rg <| Q.mv rfl <| S.qu (Z.add (r := ((j + 1 : Nat) : Int)) rfl rfl (IntWalk.i64_in _ (by omega))) <| Q.as rfl <| US.nil <| ?_
    refine S.back _ ⟨rfl, rfl, rfl, trivial⟩ (.refl _) ?_ (by omega)
    refine ⟨by omega, fun i h3 h4 => ?_⟩
    by_cases hij : i = j
    · subst hij; exact hc22
    · exact hjj i h3 (by omega)
  · refine S.sq <| Q.rg <| Q.mv rfl <| Q.fa f27_3 rfl <| Q.lc 0 ty24 rfl rfl rfl <| S.qu (Z.lns sl24 rfl) <| Q.bi rfl rfl rfl <| Q.nt <| S.cF rfl (decide_eq_false (by omega)) <| UW.exit <| UQ.pass <| UQ.pass <| UQ.here <| UQ.then <| Q.rg <| Q.as rfl <| Q.nt <| UW.ret <| S.rtR (fun _ => res_tmp rfl rfl) <| ?_
    focus (rw [pl_none fun i h => hjj i h (by omega)]; rfl; done)
theorem placeR_at {x : V} {key : ByteArray} (hx : Fits x) {i : Nat} (hp : pl x key = some i) (H : Hp) : ACall Try.prog 75 [.agg (encV x), .v (.string key)] H (IsR H (.v (.int .i64 (i : Int)))) := by
  have := placeR_spec x key hx H; rw [hp] at this; exact this
theorem placeR_no {x : V} {key : ByteArray} (hx : Fits x) (hp : pl x key = none) (H : Hp) : ACall Try.prog 75 [.agg (encV x), .v (.string key)] H (IsR H (.v (.int .i64 (-1)))) := by
  have := placeR_spec x key hx H; rw [hp] at this; exact this
theorem getR_spec (x : V) (hx : Fits x) (s : ByteArray) (H : Hp) :
    ACall Try.prog 60 [.agg (encV x), .v (.string s)] H (IsR H (.tup [.agg (encV (getV x s).1), .v (.bool (getV x s).2)])) := by
  cases hp : pl x s with
  | none =>
    have hg : getV x s = (zeroV, false) := by unfold getV; rw [hp]
    rw [hg]
    obtain ⟨k, n, t, ks, vs⟩ := x
    refine UCall (n := 18) (H0 := H) (objs := []) Try.func60 (by kernel_rfl) rfl (by rw [Try.ntmps60]; rfl) .nil <| ?_
    refine Q.rg <| S.dd <| D.box rfl rfl rfl fun p2 => S.dd <| D.al z27 rfl rfl rfl fun p4 => Q.as rfl <| Q.nt <| Q.rg <| S.qu (Z.ldw 1 ty27 rfl rfl rfl) <| Q.mv rfl <| S.qu (Z.call rfl rfl (fun _ => placeR_no hx hp _)) <| Q.as rfl <| Q.nt <| S.sq <| Q.rg <| Q.mv rfl <| Q.bi rfl rfl rfl <| Q.nt <| S.cT rfl (decide_eq_true (by omega)) <| Q.rg <| S.qu (Z.bd [] bt27 rfl rfl rfl rfl rfl rfl) <| S.s <| D.st 0 ty27 rfl rfl rfl rfl rfl rfl rfl rfl fun _ => Q.as rfl <| Q.nt <| UW.ret <| UQ.passR <| S.rtR (fun hd => res_two rfl (res1_cell (k := 0) hd rfl rfl st27 sz27) (res1_tmp rfl)) <| ?_
    rfl
  | some i =>
    have hg : getV x s = (x.vs.getD i zeroV, true) := by unfold getV; rw [hp]
    have hlt := (pl_lt hp).1
    rw [hg]
    obtain ⟨k, n, t, ks, vs⟩ := x
    simp only [V.vs] at hlt ⊢
    have hgl := encVs_at vs i hlt
    refine UCall (n := 18) (H0 := H) (objs := []) Try.func60 (by kernel_rfl) rfl (by rw [Try.ntmps60]; rfl) .nil <| ?_
    refine Q.rg <| S.dd <| D.box rfl rfl rfl fun p2 => S.dd <| D.al z27 rfl rfl rfl fun p4 => Q.as rfl <| Q.nt <| Q.rg <| S.qu (Z.ldw 1 ty27 rfl rfl rfl) <| Q.mv rfl <| S.qu (Z.call rfl rfl (fun _ => placeR_at hx hp _)) <| Q.as rfl <| Q.nt <| S.sq <| Q.rg <| Q.mv rfl <| Q.bi rfl rfl rfl <| Q.nt <| S.cF rfl (decide_eq_false (by omega)) <| UW.skip <| UQ.then <| Q.rg <| Q.fa f27_4 rfl <| Q.lc 1 ty25 rfl rfl rfl <| Q.mv rfl <| S.qu (Z.ia sl25 rfl rfl (by omega) (by assumption) (by exact encV_len _)) <| ?_
    refine S.qu (Z.lpa ty27 rfl (encV_len _)) <| S.s <| D.stw 0 ty27 rfl rfl rfl rfl (by exact encV_cell _) (encV_len _) rfl rfl fun _ => ?_
    refine Q.as rfl <| Q.nt <| UW.ret <| S.rtR (fun hd => res_two rfl (res1_cell (k := 0) hd rfl rfl st27 (by rw [encV_len]; exact sz27)) (res1_tmp rfl)) <| ?_
    rfl
/-- An object with keys and values put in at a place, some of the old ones taken out there. -/
def wiR (x : V) (at_ out : Nat) (keys : List ByteArray) (vals : List V) : V :=
  .mk 5 x.n x.t (x.ks.take at_ ++ keys ++ (x.ks.take (min x.ks.length x.vs.length)).drop (at_ + out)) (x.vs.take at_ ++ vals ++ (x.vs.take (min x.ks.length x.vs.length)).drop (at_ + out))
theorem three {α : Type} (A B C : List α) : (((A.take A.length ++ B).take (A.length + B.length)) ++ C).take (A.length + B.length + C.length) = A ++ B ++ C := by
  rw [List.take_length, ← List.length_append, List.take_length, ← List.length_append, List.take_length]
theorem withR_own (x : V) (hx : Fits x) (at_ out : Nat) (keys : List ByteArray) (vals : List V) (hat : at_ + out ≤ min x.ks.length x.vs.length) (hk1 : keys.length ≤ 1000000) (hv1 : vals.length ≤ 1000000) (H : Hp) :
    ACall Try.prog 76 [.agg (encV x), .v (.int .i64 (at_ : Int)), .v (.int .i64 (out : Int)), strs keys, .sl (encVs vals)] H (OwnV H (wiR x at_ out keys vals)) := by
  have hkl0 := hx.ksl
  have hvl0 := hx.vsl
  obtain ⟨k, n, t, ks, vs⟩ := x
  simp only [V.ks, V.vs] at hkl0 hvl0 hat
  have hml : (ks.map encS).length = ks.length := List.length_map ..
  have hvl := encVs_len vs
  have hml2 : (keys.map encS).length = keys.length := List.length_map ..
  have hvl2 := encVs_len vals
  refine UCall (n := 64) (H0 := H) (objs := []) Try.func76 (by kernel_rfl) rfl (by rw [Try.ntmps76]; rfl) .nil <| ?_
  refine Q.rg <| S.dd <| D.box rfl rfl rfl fun p5 => S.dd <| D.al z27 rfl rfl rfl fun p10 => Q.nt <| Q.rg <| Q.fa f27_3 rfl <| Q.lc 1 ty24 rfl rfl rfl <| S.qu (Z.lns sl24 rfl) <| Q.fa f27_4 rfl <| Q.lc 1 ty25 rfl rfl rfl <| S.qu (Z.lns sl25 rfl) <| ?_
  refine S.qu (Z.eq (u' := .v (.int .i64 ((min ks.length vs.length : Nat) : Int))) (Z.min rfl rfl) (by rw [hml, hvl]; congr 2; split <;> omega)) ?_
  refine Q.as rfl <| Q.nt <| Q.rg <| Q.as rfl <| Q.nt <| Q.rg <| Q.as rfl <| Q.nt <| Q.rg <| Q.mv rfl <| Q.fa f27_3 rfl <| Q.lc 1 ty24 rfl rfl rfl <| Q.mv rfl <| S.qu (Z.sls sl24 rfl (strs_sz _) (.hi rfl) (by omega) (by omega) rfl) <| S.dd <| D.apn row24 rfl rfl (.sl (sz_cut (strs_sz _))) (by (simp only [List.length_append, List.length_drop, List.length_take]; omega)) fun p26 => ?_
  refine Q.as rfl <| Q.nt <| Q.rg <| Q.mv rfl <| Q.mv rfl <| S.dd <| D.ap 0 row24 rfl rfl (by omega) rfl (.sl (strs_sz _)) (by (simp only [List.length_append, List.length_drop, List.length_take]; omega)) rfl fun p29 => ?_
  refine Q.as rfl <| Q.nt <| Q.rg <| Q.mv rfl <| Q.fa f27_3 rfl <| Q.lc 2 ty24 rfl rfl rfl <| Q.mv rfl <| Q.mv rfl <| S.qu (Z.add (r := ((at_ + out : Nat) : Int)) rfl rfl (IntWalk.i64_in _ (by omega))) <| Q.mv rfl <| S.qu (Z.sls sl24 rfl (strs_sz _) (.both rfl rfl) (by omega) (by omega) rfl) <| S.dd <| D.ap 0 row24 rfl rfl (by (simp only [List.length_append, List.length_drop, List.length_take]; omega)) rfl (.sl (sz_cut (strs_sz _))) (by (simp only [List.length_append, List.length_drop, List.length_take]; omega)) rfl fun p38 => ?_
  refine Q.as rfl <| Q.nt <| Q.rg <| Q.mv rfl <| Q.fa f27_4 rfl <| Q.lc 2 ty25 rfl rfl rfl <| Q.mv rfl <| S.qu (Z.sls sl25 rfl (encVs_sz _) (.hi rfl) (by omega) (by omega) rfl) <| S.dd <| D.apn row25 rfl rfl (.sl (sz_cut (encVs_sz _))) (by (simp only [List.length_append, List.length_drop, List.length_take]; omega)) fun p44 => ?_
  refine Q.as rfl <| Q.nt <| Q.rg <| Q.mv rfl <| Q.mv rfl <| S.dd <| D.ap 0 row25 rfl rfl (by omega) rfl (.sl (encVs_sz _)) (by (simp only [List.length_append, List.length_drop, List.length_take]; omega)) rfl fun p47 => ?_
  refine Q.as rfl <| Q.nt <| Q.rg <| Q.mv rfl <| Q.fa f27_4 rfl <| Q.lc 3 ty25 rfl rfl rfl <| Q.mv rfl <| Q.mv rfl <| S.qu (Z.add (r := ((at_ + out : Nat) : Int)) rfl rfl (IntWalk.i64_in _ (by omega))) <| Q.mv rfl <| S.qu (Z.sls sl25 rfl (encVs_sz _) (.both rfl rfl) (by omega) (by omega) rfl) <| S.dd <| D.ap 0 row25 rfl rfl (by (simp only [List.length_append, List.length_drop, List.length_take]; omega)) rfl (.sl (sz_cut (encVs_sz _))) (by (simp only [List.length_append, List.length_drop, List.length_take]; omega)) rfl fun p56 => ?_
  refine Q.as rfl <| Q.nt <| Q.rg <| Q.fa f27_1 rfl <| Q.lc 3 ty2 rfl rfl rfl <| Q.fa f27_2 rfl <| Q.lc 3 ty9 rfl rfl rfl <| Q.mv rfl <| Q.mv rfl <| S.qu (Z.bd [0, 1, 2, 3, 4] bt27 rfl rfl rfl rfl rfl rfl) <| S.s <| D.st 2 ty27 rfl rfl rfl rfl rfl rfl rfl rfl fun _ => Q.nt <| UW.ret <| ?_
  have ek : (wiR (.mk k n t ks vs) at_ out keys vals).ks.map encS = List.drop 0 (List.take at_ (ks.map encS)) ++ keys.map encS ++ List.drop (at_ + out) (List.take (min ks.length vs.length) (ks.map encS)) := by
    simp [wiR, vks, vvs, List.map_take, List.map_drop]
  have ev : encVs (wiR (.mk k n t ks vs) at_ out keys vals).vs = List.drop 0 (List.take at_ (encVs vs)) ++ encVs vals ++ List.drop (at_ + out) (List.take (min ks.length vs.length) (encVs vs)) := by
    simp [wiR, vks, vvs, encVs_eq, List.map_take, List.map_drop]
  have elk : (wiR (.mk k n t ks vs) at_ out keys vals).ks.length = (List.drop 0 (List.take at_ (ks.map encS))).length + (keys.map encS).length + (List.drop (at_ + out) (List.take (min ks.length vs.length) (ks.map encS))).length := by
    rw [← List.length_map (f := encS), ek, List.length_append, List.length_append]
  have elv : (wiR (.mk k n t ks vs) at_ out keys vals).vs.length = (List.drop 0 (List.take at_ (encVs vs))).length + (encVs vals).length + (List.drop (at_ + out) (List.take (min ks.length vs.length) (encVs vs))).length := by
    rw [← encVs_len, ev, List.length_append, List.length_append]
  refine retR [_, _] (fun hd => res_cell (k := 2) hd rfl rfl rfl st27 sz27) (.cons_cons _ (.cons_cons _ (List.nil_sublist _))) fun hd => ⟨_, hd, rfl, _, _, _, _, ?_, rfl, ?_, ?_, ?_, ?_⟩
  · rw [elk, elv]; rfl
  · rw [elk]; simp only [List.length_append, List.length_take]; omega
  · rw [elk, ek]; exact three _ _ _
  · rw [elv]; simp only [List.length_append, List.length_take]; omega
  · rw [elv, ev]; exact three _ _ _
theorem withR_in (x : V) (hx : Fits x) (at_ out : Nat) (keys : List ByteArray) (vals : List V) (hat : at_ + out ≤ min x.ks.length x.vs.length) (hk1 : keys.length ≤ 1000000) (hv1 : vals.length ≤ 1000000) (H : Hp) :
    ACall Try.prog 76 [.agg (encV x), .v (.int .i64 (at_ : Int)), .v (.int .i64 (out : Int)), strs keys, .sl (encVs vals)] H (IsR H (.agg (encV (wiR x at_ out keys vals)))) := ownV_pure (withR_own x hx at_ out keys vals hat hk1 hv1 H)
theorem withR_nil (x : V) (hx : Fits x) (at_ out : Nat) (hat : at_ + out ≤ min x.ks.length x.vs.length) (H : Hp) :
    ACall Try.prog 76 [.agg (encV x), .v (.int .i64 (at_ : Int)), .v (.int .i64 (out : Int)), .v (.slice none 0 0), .v (.slice none 0 0)] H (IsR H (.agg (encV (wiR x at_ out [] [])))) := by
  refine ACall.args (us' := [.agg (encV x), .v (.int .i64 (at_ : Int)), .v (.int .i64 (out : Int)), strs [], .sl (encVs [])]) (fun _ _ h => h) rfl (fun j u u' h1 h2 => ?_) (withR_in x hx at_ out [] [] hat (by decide) (by decide) H)
  match j with
  | 0 => cases h1; cases h2; exact Turns.drop (fun _ _ h => h) _
  | 1 => cases h1; cases h2; exact Turns.drop (fun _ _ h => h) _
  | 2 => cases h1; cases h2; exact Turns.drop (fun _ _ h => h) _
  | 3 => cases h1; cases h2; exact Turns.nil _
  | 4 => cases h1; cases h2; exact Turns.nil _
  | j + 5 => simp at h1
theorem cutV_eq (x : V) : cutV x = .mk x.k x.n x.t (x.ks.take (min x.ks.length x.vs.length)) (x.vs.take (min x.ks.length x.vs.length)) := rfl
theorem pl_min {x : V} {key : ByteArray} {i : Nat} (h : pl x key = some i) : i + 1 ≤ min x.ks.length x.vs.length := by have := pl_lt h; omega
theorem cutAt_take {α : Type} (l : List α) (m i : Nat) (h : i ≤ m) : cutAt (l.take m) i = l.take i ++ (l.take m).drop (i + 1) := by
  unfold cutAt
  rw [List.take_take, Nat.min_eq_left h]
theorem without_eq {x : V} {key : ByteArray} {i : Nat} (h : pl x key = some i) : wiR x i 1 [] [] = withoutV x key := by
  have h1 := pl_min h
  have h2 := (pl_lt h).2.2
  unfold withoutV wiR
  rw [h]
  simp only [cutV, vks, vvs, List.append_nil]
  rw [cutAt_take _ _ _ (by omega), cutAt_take _ _ _ (by omega), h2]
theorem withoutR_spec (x : V) (hx : Fits x) (key : ByteArray) (H : Hp) : ACall Try.prog 62 [.agg (encV x), .v (.string key)] H (IsR H (.agg (encV (withoutV x key)))) := by
  cases hp : pl x key with
  | none =>
    have hg : withoutV x key = x := by unfold withoutV; rw [hp]
    rw [hg]
    obtain ⟨k, n, t, ks, vs⟩ := x
    refine UCall (n := 15) (H0 := H) (objs := []) Try.func62 (by kernel_rfl) rfl (by rw [Try.ntmps62]; rfl) .nil <| ?_
    refine Q.rg <| S.dd <| D.box rfl rfl rfl fun p2 => S.dd <| D.al z27 rfl rfl rfl fun p4 => Q.nt <| Q.rg <| S.qu (Z.ldw 1 ty27 rfl rfl rfl) <| Q.mv rfl <| S.qu (Z.call rfl rfl (fun _ => placeR_no hx hp _)) <| Q.as rfl <| Q.nt <| S.sq <| Q.rg <| Q.mv rfl <| Q.bi rfl rfl rfl <| Q.nt <| S.cT rfl (decide_eq_true (by omega)) <| Q.rg <| S.qu (Z.ldw 1 ty27 rfl rfl rfl) <| S.s <| D.st 0 ty27 rfl rfl rfl rfl rfl rfl rfl rfl fun _ => Q.nt <| UW.ret <| UQ.passR <| S.rtR (fun hd => res_cell (k := 0) hd rfl rfl rfl st27 sz27) <| ?_
    rfl
  | some i =>
    rw [← without_eq hp]
    obtain ⟨k, n, t, ks, vs⟩ := x
    refine UCall (n := 15) (H0 := H) (objs := []) Try.func62 (by kernel_rfl) rfl (by rw [Try.ntmps62]; rfl) .nil <| ?_
    refine Q.rg <| S.dd <| D.box rfl rfl rfl fun p2 => S.dd <| D.al z27 rfl rfl rfl fun p4 => Q.nt <| Q.rg <| S.qu (Z.ldw 1 ty27 rfl rfl rfl) <| Q.mv rfl <| S.qu (Z.call rfl rfl (fun _ => placeR_at hx hp _)) <| Q.as rfl <| Q.nt <| S.sq <| Q.rg <| Q.mv rfl <| Q.bi rfl rfl rfl <| Q.nt <| S.cF rfl (decide_eq_false (by omega)) <| UW.skip <| UQ.then <| Q.rg <| S.qu (Z.ldw 1 ty27 rfl rfl rfl) <| Q.mv rfl <| S.qu (Z.call rfl rfl (fun _ => withR_nil _ hx i 1 (pl_min hp) _)) <| S.s <| D.st 0 ty27 rfl rfl rfl rfl rfl rfl rfl rfl fun _ => Q.nt <| UW.ret <| S.rtR (fun hd => res_cell (k := 0) hd rfl rfl rfl st27 sz27) <| ?_
    rfl
end Go.Proofs.Ytopaddebalfoeaa
