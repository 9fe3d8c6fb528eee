/- Places, reading by a key. -/
import Derived.Test.YtopaddebalfoeaaV1
namespace Go.Proofs.Ytopaddebalfoeaa
open Go Go.RowKit Go.Eng
set_option linter.unusedSimpArgs false
set_option linter.unusedVariables false
def keyIdx (l : List ByteArray) (s : ByteArray) : Option Nat := l.findIdx? (fun x => s.toList == x.toList)
def oi : Option Nat → Int
  | none => -1
  | some i => i
theorem keyIdx_at {l : List ByteArray} {s : ByteArray} {k : Nat} (hk : k < l.length) (h : (s.toList == l[k].toList) = true) (hj : ∀ j (h : j < l.length), j < k → (s.toList == l[j].toList) = false) : keyIdx l s = some k := by
  unfold keyIdx
  rw [List.findIdx?_eq_some_iff_getElem]
  exact ⟨hk, h, fun j hjk => by rw [hj j (by omega) hjk]; simp⟩
theorem keyIdx_none {l : List ByteArray} {s : ByteArray} (hj : ∀ j (h : j < l.length), (s.toList == l[j].toList) = false) : keyIdx l s = none := by
  unfold keyIdx
  rw [List.findIdx?_eq_none_iff]
  intro x hx
  obtain ⟨j, hj2, rfl⟩ := List.getElem_of_mem hx
  exact hj j hj2
theorem keyIdx_lt {l : List ByteArray} {s : ByteArray} {i : Nat} (h : keyIdx l s = some i) : i < l.length := by
  unfold keyIdx at h
  rw [List.findIdx?_eq_some_iff_getElem] at h
  exact h.1
theorem strs_get (l : List ByteArray) (k : Nat) (h : k < l.length) : (l.map encS)[k]? = some (encS l[k]) := by rw [List.getElem?_map, List.getElem?_eq_getElem h]; rfl
theorem index_spec (l : List ByteArray) (s : ByteArray) (hl : l.length ≤ 1000000) (H : Hp) :
    ACall Try.prog 68 [strs l, .v (.string s)] H (IsR H (.v (.int .i64 (oi (keyIdx l s))))) := by
  refine UCall (n := 19) (H0 := H) (objs := []) Try.func68 (by kernel_rfl) rfl (by rw [Try.ntmps68]; rfl) .nil <| ?_
  refine Q.rg <| Q.as rfl <| Q.nt <| UW.seq <| Q.rg <| Q.mv rfl <| US.len_sl rfl (by decide) rfl rfl sl24 rfl <| Q.mv rfl <| Q.nt <| UW.block <| UW.loop (fun k : Nat => [(8, .v (.int .i64 (k : Int))), (6, strs l), (7, .v (.int .i64 ((l.map encS).length : Int))), (0, strs l), (1, .v (.string s))]) (fun _ => []) (fun k => k ≤ l.length ∧ ∀ j (h : j < l.length), j < k → (s.toList == l[j].toList) = false) (fun k => l.length - k) 0 ⟨Nat.zero_le _, fun j _ h => absurd h (by omega)⟩ ⟨rfl, rfl, rfl, rfl, rfl, trivial⟩ (.refl _) <| ?_
  rintro k ⟨hk, hj⟩
  refine Q.rg <| Q.bi rfl rfl rfl <| Q.nt <| UW.seq <| ?_
  refine UW.cond rfl (fun h => ?_) (fun h => ?_)
  · have h := of_decide_eq_true h
    rw [List.length_map] at h
    have hlt : k < l.length := by omega
    refine UW.skip <| UQ.then <| UW.seq <| UW.block <| Q.rg <| Q.mv rfl <| Q.as rfl <| Q.nt <| Q.rg <| Q.mv rfl <| Q.mv rfl <| Q.mv rfl <| US.indexAddr_sl rfl (by decide) rfl rfl sl24 rfl rfl (by omega) (strs_get l k hlt) rfl <| US.load_rp_cell rfl (by decide) rfl rfl rfl ty9 <| US.bin_str rfl (by decide) rfl rfl rfl rfl rfl <| Q.nt <| ?_
    refine UW.cond rfl (fun h2 => ?_) (fun h2 => ?_)
    · refine Q.rg <| Q.mv rfl <| Q.as rfl <| Q.nt <| UW.ret <| UQ.blockR <| UQ.passR <| UQ.passR <| UQ.blockR <| UQ.passR <| ?_
      refine retR [] (fun _ => res_tmp rfl rfl) (.refl _) fun hd => ⟨?_, rfl⟩
      rw [keyIdx_at hlt h2 hj]; rfl
    · refine UW.skip <| UQ.blockN <| UQ.then <| UW.region <| US.add rfl (by decide) rfl rfl rfl rfl (IntWalk.i64_in _ (by omega)) <| Q.mv rfl <| ?_
      exact US.round (a' := k + 1) ⟨by omega, fun j h3 h4 => by
        by_cases hjk : j = k
        · subst hjk; exact h2
        · exact hj j h3 (by omega)⟩ (by omega) ⟨rfl, rfl, rfl, rfl, rfl, trivial⟩ (.refl _)
  · have h := of_decide_eq_false h
    rw [List.length_map] at h
    refine UW.exit <| UQ.pass <| UQ.pass <| UQ.here <| UQ.then <| Q.rg <| Q.as rfl <| Q.nt <| UW.ret <| ?_
    refine retR [] (fun _ => res_tmp rfl rfl) (.refl _) fun hd => ⟨?_, rfl⟩
    rw [keyIdx_none (fun j h3 => hj j h3 (by omega))]; rfl
/-- A key's place in an object. -/
def pl (x : V) (key : ByteArray) : Option Nat := if x.k = 5 then (match keyIdx x.ks key with | some i => if i < x.vs.length then some i else none | none => none) else none
theorem place_spec (x : V) (key : ByteArray) (hx : Fits x) (H : Hp) :
    ACall Try.prog 46 [.agg (encV x), .v (.string key)] H (IsR H (.v (.int .i64 (oi (pl x key))))) := by
  cases hx with
  | mk k n t ks vs h1 h2 h =>
  refine UCall (n := 19) (H0 := H) (objs := []) Try.func46 (by kernel_rfl) rfl (by rw [Try.ntmps46]; rfl) .nil <| ?_
  refine Q.rg <| US.box rfl (by decide) rfl rfl rfl rfl (by rfl) fun p2 => ?_
  refine Q.as rfl <| Q.nt <| UW.seq <| Q.rg <| ?_
  by_cases hk : k = 5
  · refine US.fieldAddr rfl (by decide) rfl rfl rfl f27_0 <| Q.lc 0 ty3 rfl rfl rfl <| US.bin_int rfl (by decide) rfl rfl rfl rfl (r := .bool false) (by (simp [iop, sop, hk]; done)) <| ?_
    refine Q.nt <| UW.cond rfl (fun h => absurd h (by simp)) fun _ => ?_
    refine UW.skip <| UQ.then <| UW.seq <| Q.rg <| US.fieldAddr rfl (by decide) rfl rfl rfl f27_3 <| Q.lc 0 ty24 rfl rfl rfl <| Q.mv rfl <| US.call_pure rfl (by decide) rfl rfl rfl rfl (fun _ => index_spec ks key h1 _) <| Q.as rfl <| Q.nt <| Q.rg <| Q.mv rfl <| US.fieldAddr rfl (by decide) rfl rfl rfl f27_4 <| Q.lc 0 ty25 rfl rfl rfl <| US.len_sl rfl (by decide) rfl rfl sl25 rfl <| Q.bi rfl rfl rfl <| Q.nt <| ?_
    refine UW.cond rfl (fun h => ?_) (fun h => ?_)
    · refine Q.rg <| Q.mv rfl <| Q.as rfl <| Q.nt <| UW.ret <| UQ.passR <| ?_
      refine retR [] (fun _ => res_tmp rfl rfl) (by simp) fun hd => ⟨?_, rfl⟩
      have h := of_decide_eq_true h
      rw [encVs_len] at h
      simp only [pl, V.k, V.ks, V.vs, hk, if_true]
      cases hi : keyIdx ks key with
      | none => rfl
      | some i =>
        rw [hi] at h
        have hlt : i < vs.length := by simp only [oi] at h; omega
        simp [oi, hlt]
    · refine UW.skip <| UQ.then <| Q.rg <| Q.as rfl <| Q.nt <| UW.ret <| ?_
      refine retR [] (fun _ => res_tmp rfl rfl) (by simp) fun hd => ⟨?_, rfl⟩
      have h := of_decide_eq_false h
      rw [encVs_len] at h
      simp only [pl, V.k, V.ks, V.vs, hk, if_true]
      cases hi : keyIdx ks key with
      | none => rw [hi] at h; simp only [oi] at h; omega
      | some i =>
        rw [hi] at h
        have hlt : ¬ i < vs.length := by simp only [oi] at h; omega
        simp [oi, hlt]
  · refine US.fieldAddr rfl (by decide) rfl rfl rfl f27_0 <| Q.lc 0 ty3 rfl rfl rfl <| US.bin_int rfl (by decide) rfl rfl rfl rfl (r := .bool true) (by (simp [iop, sop, hk]; done)) <| ?_
    refine Q.nt <| ?_
    refine UW.cond rfl (fun _ => ?_) (fun h => absurd h (by simp))
    refine Q.rg <| Q.as rfl <| Q.nt <| UW.ret <| UQ.passR <| ?_
    refine retR [] (fun _ => res_tmp rfl rfl) (by simp) fun hd => ⟨?_, rfl⟩
    simp only [pl, V.k, hk, if_false]; rfl
theorem pl_lt {x : V} {key : ByteArray} {i : Nat} (h : pl x key = some i) : i < x.vs.length ∧ i < x.ks.length ∧ x.k = 5 := by
  unfold pl at h
  split at h
  · rename_i hk
    cases hi : keyIdx x.ks key with
    | none => rw [hi] at h; simp at h
    | some j =>
      rw [hi] at h
      simp only at h
      split at h
      · cases h; exact ⟨by assumption, keyIdx_lt hi, hk⟩
      · cases h
  · cases h
theorem Fits.vs {x : V} (h : Fits x) : ∀ y ∈ x.vs, Fits y := by cases h with | mk k n t ks vs h1 h2 h => exact h
theorem Fits.ksl {x : V} (h : Fits x) : x.ks.length ≤ 1000000 := by cases h with | mk k n t ks vs h1 h2 h => exact h1
theorem Fits.vsl {x : V} (h : Fits x) : x.vs.length ≤ 1000000 := by cases h with | mk k n t ks vs h1 h2 h => exact h2
/-- An object with as many keys as values. -/
def cutV (x : V) : V := .mk x.k x.n x.t (x.ks.take (min x.ks.length x.vs.length)) (x.vs.take (min x.ks.length x.vs.length))
theorem Fits.cut {x : V} (h : Fits x) : Fits (cutV x) := .mk _ _ _ _ _ (by rw [List.length_take]; have := h.ksl; omega) (by rw [List.length_take]; have := h.vsl; omega) (fun y hy => h.vs y (List.mem_of_mem_take hy))
theorem encVs_take (l : List V) (k : Nat) : encVs (l.take k) = (encVs l).take k := by rw [encVs_eq, encVs_eq, List.map_take]
theorem cut_spec (x : V) (hx : Fits x) (H : Hp) :
    ACall Try.prog 47 [.agg (encV x)] H (CopyR H (cutV x)) := by
  have hf := hx
  cases hx with
  | mk k n t ks vs h1 h2 h =>
  have hkl : (ks.map encS).length = ks.length := List.length_map ..
  have hvl := encVs_len vs
  refine UCall (n := 23) (H0 := H) (objs := []) Try.func47 (by kernel_rfl) rfl (by rw [Try.ntmps47]; rfl) .nil <| ?_
  refine Q.rg <| US.box rfl (by decide) rfl rfl rfl rfl (by rfl) fun p1 => ?_
  refine US.allocN rfl (by decide) rfl rfl z27 rfl rfl rfl rfl fun p2 => Q.nt <| Q.rg <| US.fieldAddr rfl (by decide) rfl rfl rfl f27_3 <| Q.lc 1 ty24 rfl rfl rfl <| US.len_sl rfl (by decide) rfl rfl sl24 rfl <| US.fieldAddr rfl (by decide) rfl rfl rfl f27_4 <| Q.lc 1 ty25 rfl rfl rfl <| US.len_sl rfl (by decide) rfl rfl sl25 rfl <| ?_
  refine US.min2' rfl (by decide) rfl rfl rfl rfl (r := ((min ks.length vs.length : Nat) : Int)) (by rw [hkl, hvl]; split <;> omega) ?_
  refine Q.as rfl <| Q.nt <| UW.seq <| ?_
  refine' UW.draw' (by kernel_rfl) [0, 1, 0, 7, 0, 16, 0, 112, 63, 319, 1023, 2047] [some 11, some 12, some 13, some 14, some 15, some 16, some 17, some 18, some 19, none, none, none] [some (11, _), some (12, _), some (13, _), some (14, _), some (15, _), some (16, _), some (17, _), some (18, _), some (19, _), none, none, none] [9, 10, 11] [1, 5] rfl (by decide) (by decide) (QAll.free (by decide) rfl rfl ?q0 (QAll.held (by decide) rfl rfl ?q1 (QAll.free (by decide) rfl rfl ?q2 (QAll.free (by decide) rfl rfl ?q3 (QAll.free (by decide) rfl rfl ?q4 (QAll.held (by decide) rfl rfl ?q5 (QAll.free (by decide) rfl rfl ?q6 (QAll.free (by decide) rfl rfl ?q7 (QAll.free (by decide) rfl rfl ?q8 (QAll.skip (QAll.skip (QAll.skip QAll.nil)))))))))))) ?k
  case q0 => exact QF.fieldAddr rfl rfl rfl f27_3
  case q1 => exact QS.ld_cell rfl rfl ty24 rfl (k := 1) rfl rfl
  case q2 => exact QF.move rfl rfl rfl
  case q3 => exact QF.slice_sl rfl rfl sl24 rfl (by exact strs_sz _) (.hi rfl) (by omega) (by omega) rfl
  case q4 => exact QF.fieldAddr rfl rfl rfl f27_4
  case q5 => exact QS.ld_cell rfl rfl ty25 rfl (k := 1) rfl rfl
  case q6 => exact QF.move rfl rfl rfl
  case q7 => exact QF.slice_sl rfl rfl sl25 rfl (by exact encVs_sz _) (.hi rfl) (by omega) (by omega) rfl
  case q8 => exact QF.fieldAddr rfl rfl rfl f27_3
  refine CH.cons0 rfl rfl <| DS.st_box rfl rfl ty24 rfl (k := 1) rfl rfl rfl (by rfl) (by rfl) rfl rfl fun _ => ?_
  refine CH.cons rfl rfl (by decide) <| DS.qs (by exact QS.fieldAddr rfl rfl rfl f27_4) <| ?_
  refine CH.cons0 rfl rfl <| DS.st_box rfl rfl ty25 rfl (k := 1) rfl rfl rfl (by rfl) (by rfl) rfl rfl fun _ => ?_
  refine CH.nil <| ?_
  simp only [app, finL]
  have e1 : List.drop 0 (List.take (min ks.length vs.length) (encVs vs)) = encVs (vs.take (min ks.length vs.length)) := by rw [List.drop_zero, encVs_take]
  have e2 : List.drop 0 (List.take (min ks.length vs.length) (ks.map encS)) = (ks.take (min ks.length vs.length)).map encS := by rw [List.drop_zero, List.map_take]
  rw [e1, e2]
  refine UQ.then <| Q.rg <| US.ld_whole rfl (by decide) rfl rfl ty27 rfl (k := 1) rfl (by rfl) <| ?_
  refine US.call_new rfl (by decide) rfl rfl rfl rfl (fun _ => copy_spec (cutV (.mk k n t ks vs)) hf.cut _) ?_; rintro _ _ ⟨i, j, rfl, rfl⟩
  refine US.st_whole rfl rfl rfl ty27 rfl (k := 2) rfl (by rfl) rfl rfl (by rfl) (by rfl) rfl <| ?_
  refine Q.nt <| UW.ret <| ?_
  simp only [List.set_cons_succ, List.set_cons_zero, List.cons_append, List.nil_append]
  refine retR [_, _] (fun hd => res_cell (k := 2) hd rfl rfl rfl st27 sz27) (.cons_cons _ (.cons_cons _ (List.nil_sublist _))) fun hd => ?_
  exact ⟨_, hd, rfl, i, j, rfl, rfl⟩
end Go.Proofs.Ytopaddebalfoeaa
