/- Copies. · Places, reading by a key. · Reading, cutting out. -/
import Derived.Test.YtgmfgmbgmjbdhaaGreatDoorKx10
section
namespace Go.Proofs.YtgmfgmbgmjbdhaaGreatDoor
open Go Go.RowKit Go.Eng
set_option maxRecDepth 100000
set_option linter.unusedSimpArgs false
set_option linter.unusedVariables false
/-- A new row of one's own, beside the heap. -/
def NewRow (H : Hp) (e sz : Nat) (rows : List (List AV)) (u : AV) (H' : Hp) : Prop := ∃ news, Dist H news ∧ H' = extH H news ∧ ∃ i, u = .own i 0 rows.length sz ∧ news = [(i, .row e sz rows)]
theorem strs_sz (l : List ByteArray) : ∀ cs ∈ l.map encS, cs.length = 1 := by
  intro cs h; obtain ⟨s, _, rfl⟩ := List.mem_map.1 h; rfl
theorem encVs_len (l : List V) : (encVs l).length = l.length := by rw [encVs_eq, List.length_map]
theorem encVs_sz (l : List V) : ∀ cs ∈ encVs l, cs.length = 5 := by
  intro cs h; rw [encVs_eq] at h; obtain ⟨s, _, rfl⟩ := List.mem_map.1 h; exact encV_len s
theorem clone_spec (l : List ByteArray) (hl : l.length * 16 ≤ 140737488355328) (H : Hp) :
    ACall Tryz.prog 104 [strs l] H (NewRow H 9 1 (l.map encS)) := by
  refine UCall (n := 8) (H0 := H) (objs := []) Tryz.func104 (by kernel_rfl) rfl (by rw [Tryz.ntmps104]; rfl) .nil <| ?_
  refine Q.rg <| Q.as rfl <| Q.nt <| UW.seq <| Q.rg <| Q.mv rfl <| US.eql_nil rfl (by decide) rfl rfl Tryz.underlying23 rfl fun c4 hc4 => Q.nt <| ?_
  refine UW.cond rfl (fun h => ?_) (fun h => ?_)
  · have hl0 := hc4 h
    refine Q.rg <| Q.as rfl <| US.nilOwn 2 9 1 (by decide) rfl fun i => US.nil <| UQ.then <| UW.ret <| UQ.passR <| retR [(i, .row 9 1 [])] (fun _ => res_tmp rfl rfl) (by simp) fun hd => ?_
    exact ⟨_, hd, rfl, i, by rw [hl0]; rfl, by rw [hl0]⟩
  · refine UW.skip <| UQ.then <| Q.rg <| US.lit rfl (by decide) rfl rfl row23 (by decide) rfl rfl rfl (by simp) fun p5 => ?_
    refine Q.mv rfl <| US.append_own rfl (by decide) rfl rfl row23 rfl (k := 0) rfl (by simp) rfl (SrcO.sl (strs_sz l)) (by simp; omega) rfl fun p7 => ?_
    refine Q.as rfl <| Q.nt <| UW.ret <| retR [(p7, _)] (fun _ => res_tmp rfl rfl) (.refl _) fun hd => ?_
    exact ⟨_, hd, rfl, p7, by simp, by simp⟩
/-- The parts of a list are small. -/
inductive Fits : V → Prop
  | mk (k n : Int) (t : ByteArray) (ks : List ByteArray) (vs : List V) (h1 : ks.length ≤ 1000000) (h2 : vs.length ≤ 1000000) (h : ∀ x ∈ vs, Fits x) : Fits (.mk k n t ks vs)
/-- What a copy gives: its rows are new. -/
def CopyR (H : Hp) (x : V) (u : AV) (H' : Hp) : Prop := ∃ news, Dist H news ∧ H' = extH H news ∧ ∃ i j, u = .agg [.v (.int .i64 x.k), .v (.int .i64 x.n), .v (.string x.t), .own i 0 x.ks.length 1, .own j 0 x.vs.length 5] ∧ news = [(j, .row 26 5 (encVs x.vs)), (i, .row 9 1 (x.ks.map encS))]
theorem encVs_get (l : List V) (k : Nat) (h : k < l.length) : (encVs l)[k]? = some (encV l[k]) := by rw [encVs_eq, List.getElem?_map, List.getElem?_eq_getElem h]; rfl
theorem encVs_snoc (l : List V) (k : Nat) (h : k < l.length) : (encVs l).take k ++ [encV l[k]] = (encVs l).take (k + 1) := by
  rw [List.take_add_one, encVs_get l k h]; rfl
theorem eachCopy_spec (l : List V) (hl : l.length ≤ 1000000) (hc : ∀ x ∈ l, ∀ H, ACall Tryz.prog 68 [.agg (encV x)] H (IsR H (.agg (encV x)))) (H : Hp) :
    ACall Tryz.prog 105 [.sl (encVs l), .clo 68 []] H (NewRow H 26 5 (encVs l)) := by
  refine UCall (n := 22) (H0 := H) (objs := []) Tryz.func105 (by kernel_rfl) rfl (by rw [Tryz.ntmps105]; rfl) .nil <| ?_
  refine Q.rg <| Q.as rfl <| Q.nt <| Q.rg <| Q.as rfl <| US.nilOwn 5 26 5 (by decide) rfl fun i0 => US.nil <| UQ.then <| UW.seq <| Q.rg <| Q.mv rfl <| US.len_sl rfl (by decide) rfl rfl sl24 rfl <| Q.mv rfl <| Q.nt <| UW.block <| UW.loop (fun p : Nat × Nat => [(10, .v (.int .i64 (p.1 : Int))), (5, .own p.2 0 p.1 5), (8, .sl (encVs l)), (9, .v (.int .i64 ((encVs l).length : Int))), (1, .clo 68 [])]) (fun p => [(p.2, .row 26 5 ((encVs l).take p.1))]) (fun p => p.1 ≤ l.length) (fun p => l.length - p.1) (0, i0) (Nat.zero_le _) ⟨rfl, rfl, rfl, rfl, rfl, trivial⟩ (.refl _) <| ?_
  rintro ⟨k, id⟩ hk
  simp only at hk
  have hll := encVs_len l
  refine Q.rg <| Q.bi rfl rfl rfl <| Q.nt <| UW.seq <| ?_
  refine UW.cond rfl (fun h => ?_) (fun h => ?_)
  · have h := of_decide_eq_true h
    have hlt : k < l.length := by omega
    refine UW.skip <| UQ.then <| UW.seq <| UW.block <| Q.rg <| US.indexAddr_sl rfl (by decide) rfl rfl sl24 rfl rfl (by omega) (encVs_get l k hlt) (encV_len _) <| US.load_rp_agg rfl (by decide) rfl rfl rfl ty26 (by exact encV_len _) <| ?_
    refine US.allocN rfl (by decide) rfl rfl z26 rfl rfl rfl rfl fun p7 => US.st_whole rfl rfl rfl ty26 rfl (k := 0) rfl (by rfl) rfl rfl (by exact encV_cell _) (by exact encV_len _) rfl <| ?_
    refine Q.nt <| UW.region <| Q.mv rfl <| Q.mv rfl <| US.ld_whole rfl (by decide) rfl rfl ty26 rfl (k := 0) rfl (by exact encV_len _) <| ?_
    refine US.call_pure rfl (by decide) rfl rfl rfl rfl (fun _ => hc _ (List.getElem_mem hlt) _) <| US.lit_sl rfl (by decide) rfl rfl row24 (by decide) rfl rfl rfl (by (intro cs h; cases List.mem_singleton.1 h; exact ⟨by exact encV_cell _, by exact encV_len _⟩)) <| ?_
    refine US.append_own rfl (by decide) rfl rfl row24 rfl (k := 1) rfl (by rw [List.length_take]; omega) rfl (SrcO.sl (fun cs h => by cases List.mem_singleton.1 h; exact encV_len _)) (by (simp; omega)) (Eq.trans (by rw [List.take_take, Nat.min_self]) (encVs_snoc l k hlt)) fun p19 => ?_
    refine Q.as rfl <| US.nil <| UQ.blockN <| UQ.then <| UW.region <| US.add rfl (by decide) rfl rfl rfl rfl (IntWalk.i64_in _ (by omega)) <| Q.mv rfl <| ?_
    exact US.round (a' := (k + 1, p19)) (by simp only; omega) (by simp only; omega) ⟨rfl, rfl, rfl, rfl, rfl, trivial⟩ (by simp)
  · have h := of_decide_eq_false h
    have hkl : k = l.length := by simp only at h; omega
    refine UW.exit <| UQ.pass <| UQ.pass <| UQ.here <| UQ.then <| Q.rg <| Q.mv rfl <| Q.as rfl <| Q.nt <| UW.ret <| retR [(id, _)] (fun _ => res_tmp rfl rfl) (.refl _) fun hd => ?_
    exact ⟨_, hd, rfl, id, by rw [hll, hkl], by rw [hkl, ← hll, List.take_length]⟩
theorem extH_sub {H : Hp} {news : List (Nat × Ob)} (hd : Dist H news) : Sub H (extH H news) := sub_of_mem (r' := []) hd .nil (by simp)
theorem strs_own {H : Hp} {news : List (Nat × Ob)} (hd : Dist H news) {k i : Nat} {rows : List (List AV)} {e sz : Nat} (h : news[k]? = some (i, .row e sz rows)) : Turns (extH H news) (.own i 0 rows.length sz) H (.sl rows) := by
  have h1 := Turns.own (off := 0) (len := rows.length) (rows' := rows) (extH_sub hd) (hd.at_ h) (hd.base h) (by omega) rfl (fun i cs cs' h1 h2 => by
    rw [h1] at h2; cases h2
    exact ⟨rfl, fun j u u' h3 h4 => by rw [h3] at h4; cases h4; exact Turns.drop (extH_sub hd) u⟩)
  simpa using h1
theorem turns_five {H H' : Hp} {a b c d e d' e' : AV} (hs : Sub H' H) (h1 : Turns H d H' d') (h2 : Turns H e H' e') : Turns H (.agg [a, b, c, d, e]) H' (.agg [a, b, c, d', e']) := by
  refine Turns.agg rfl fun j u u' h3 h4 => ?_
  match j with
  | 0 => simp at h3 h4; subst h3 h4; exact Turns.drop hs _
  | 1 => simp at h3 h4; subst h3 h4; exact Turns.drop hs _
  | 2 => simp at h3 h4; subst h3 h4; exact Turns.drop hs _
  | 3 => simp at h3 h4; subst h3 h4; exact h1
  | 4 => simp at h3 h4; subst h3 h4; exact h2
  | j + 5 => simp at h3
theorem copyR_pure {P : Program} {f : Nat} {us : List AV} {H : Hp} {x : V} (h : ACall P f us H (CopyR H x)) : ACall P f us H (IsR H (.agg (encV x))) := by
  refine h.post <| ?_
  rintro u H1 ⟨news, hd, rfl, i, j, rfl, rfl⟩
  refine ⟨.agg (encV x), H, extH_sub hd, ?_, rfl, rfl⟩
  obtain ⟨k, n, t, ks, vs⟩ := x
  simp only [encV, V.k, V.n, V.t, V.ks, V.vs] at hd ⊢
  refine turns_five (extH_sub hd) ?_ ?_
  · have := strs_own hd (k := 1) rfl
    rwa [List.length_map] at this
  · have := strs_own hd (k := 0) rfl
    rwa [encVs_len] at this
theorem copy_spec (x : V) (hx : Fits x) : ∀ H, ACall Tryz.prog 68 [.agg (encV x)] H (CopyR H x) := by
  induction hx with
  | mk k n t ks vs h1 h2 h ih =>
  intro H
  refine UCall (n := 12) (H0 := H) (objs := []) Tryz.func68 (by kernel_rfl) rfl (by rw [Tryz.ntmps68]; rfl) .nil <| ?_
  refine Q.rg <| US.box rfl (by decide) rfl rfl rfl rfl (by rfl) fun p1 => ?_
  refine US.allocN rfl (by decide) rfl rfl z26 rfl rfl rfl rfl fun p2 => Q.nt <| Q.rg <| US.fieldAddr rfl (by decide) rfl rfl rfl f26_3 <| Q.lc 1 ty23 rfl rfl rfl <| ?_
  refine US.call_new rfl (by decide) rfl rfl rfl rfl (fun hd => clone_spec ks (by omega) _) ?_; rintro _ _ ⟨p5, rfl, rfl⟩; simp only [List.cons_append, List.nil_append]
  refine US.fieldAddr rfl (by decide) rfl rfl rfl f26_3 <| US.st_box rfl rfl rfl ty23 rfl (k := 2) rfl rfl rfl (by rfl) (by rfl) rfl rfl <| ?_
  refine Q.nt <| Q.rg <| US.fieldAddr rfl (by decide) rfl rfl rfl f26_4 <| Q.lc 2 ty24 rfl rfl rfl <| ?_
  refine US.call_new rfl (by decide) rfl rfl rfl rfl (fun hd => eachCopy_spec vs h2 (fun x hx H => copyR_pure (ih x hx H)) _) ?_; rintro _ _ ⟨p9, rfl, rfl⟩; simp only [List.cons_append, List.nil_append]
  refine US.fieldAddr rfl (by decide) rfl rfl rfl f26_4 <| US.st_box rfl rfl rfl ty24 rfl (k := 3) rfl rfl rfl (by rfl) (by rfl) rfl rfl <| ?_
  refine Q.nt <| Q.rg <| US.ld_whole rfl (by decide) rfl rfl ty26 rfl (k := 3) rfl (by rfl) <| ?_
  refine US.st_whole rfl rfl rfl ty26 rfl (k := 2) rfl (by rfl) rfl rfl (by rfl) (by rfl) rfl <| ?_
  refine Q.nt <| UW.ret <| ?_
  simp only [List.set_cons_succ, List.set_cons_zero]
  refine retR [(p9, _), (p5, _)] (fun hd => res_cell (k := 2) hd rfl rfl rfl st26 sz26) (.cons_cons _ (.cons_cons _ (List.nil_sublist _))) fun hd => ?_
  exact ⟨_, hd, rfl, p5, p9, by simp only [V.k, V.n, V.t, V.ks, V.vs, List.length_map, encVs_len], rfl⟩
end Go.Proofs.YtgmfgmbgmjbdhaaGreatDoor
end
section
namespace Go.Proofs.YtgmfgmbgmjbdhaaGreatDoor
open Go Go.RowKit Go.Eng
set_option maxRecDepth 100000
set_option linter.unusedSimpArgs false
set_option linter.unusedVariables false
def keyIdx (l : List ByteArray) (s : ByteArray) : Option Nat := l.findIdx? (fun x => s.toList == x.toList)
def oi : Option Nat → Int
  | none => -1
  | some i => i
theorem keyIdx_at {l : List ByteArray} {s : ByteArray} {k : Nat} (hk : k < l.length) (h : (s.toList == l[k].toList) = true) (hj : ∀ j (h : j < l.length), j < k → (s.toList == l[j].toList) = false) : keyIdx l s = some k := by
  unfold keyIdx
  rw [List.findIdx?_eq_some_iff_getElem]
  exact ⟨hk, h, fun j hjk => by rw [hj j (by omega) hjk]; simp⟩
theorem keyIdx_none {l : List ByteArray} {s : ByteArray} (hj : ∀ j (h : j < l.length), (s.toList == l[j].toList) = false) : keyIdx l s = none := by
  unfold keyIdx
  rw [List.findIdx?_eq_none_iff]
  intro x hx
  obtain ⟨j, hj2, rfl⟩ := List.getElem_of_mem hx
  exact hj j hj2
theorem keyIdx_lt {l : List ByteArray} {s : ByteArray} {i : Nat} (h : keyIdx l s = some i) : i < l.length := by
  unfold keyIdx at h
  rw [List.findIdx?_eq_some_iff_getElem] at h
  exact h.1
theorem strs_get (l : List ByteArray) (k : Nat) (h : k < l.length) : (l.map encS)[k]? = some (encS l[k]) := by rw [List.getElem?_map, List.getElem?_eq_getElem h]; rfl
theorem index_spec (l : List ByteArray) (s : ByteArray) (hl : l.length ≤ 1000000) (H : Hp) :
    ACall Tryz.prog 91 [strs l, .v (.string s)] H (IsR H (.v (.int .i64 (oi (keyIdx l s))))) := by
  refine UCall (n := 19) (H0 := H) (objs := []) Tryz.func91 (by kernel_rfl) rfl (by rw [Tryz.ntmps91]; rfl) .nil <| ?_
  refine Q.rg <| Q.as rfl <| Q.nt <| UW.seq <| Q.rg <| Q.mv rfl <| US.len_sl rfl (by decide) rfl rfl sl23 rfl <| Q.mv rfl <| Q.nt <| UW.block <| UW.loop (fun k : Nat => [(8, .v (.int .i64 (k : Int))), (6, strs l), (7, .v (.int .i64 ((l.map encS).length : Int))), (0, strs l), (1, .v (.string s))]) (fun _ => []) (fun k => k ≤ l.length ∧ ∀ j (h : j < l.length), j < k → (s.toList == l[j].toList) = false) (fun k => l.length - k) 0 ⟨Nat.zero_le _, fun j _ h => absurd h (by omega)⟩ ⟨rfl, rfl, rfl, rfl, rfl, trivial⟩ (.refl _) <| ?_
  rintro k ⟨hk, hj⟩
  refine Q.rg <| Q.bi rfl rfl rfl <| Q.nt <| UW.seq <| ?_
  refine UW.cond rfl (fun h => ?_) (fun h => ?_)
  · have h := of_decide_eq_true h
    rw [List.length_map] at h
    have hlt : k < l.length := by omega
    refine UW.skip <| UQ.then <| UW.seq <| UW.block <| Q.rg <| Q.mv rfl <| Q.as rfl <| Q.nt <| Q.rg <| Q.mv rfl <| Q.mv rfl <| Q.mv rfl <| US.indexAddr_sl rfl (by decide) rfl rfl sl23 rfl rfl (by omega) (strs_get l k hlt) rfl <| US.load_rp_cell rfl (by decide) rfl rfl rfl ty9 <| US.bin_str rfl (by decide) rfl rfl rfl rfl rfl <| Q.nt <| ?_
    refine UW.cond rfl (fun h2 => ?_) (fun h2 => ?_)
    · refine Q.rg <| Q.mv rfl <| Q.as rfl <| Q.nt <| UW.ret <| UQ.blockR <| UQ.passR <| UQ.passR <| UQ.blockR <| UQ.passR <| ?_
      refine retR [] (fun _ => res_tmp rfl rfl) (.refl _) fun hd => ⟨?_, rfl⟩
      rw [keyIdx_at hlt h2 hj]; rfl
    · refine UW.skip <| UQ.blockN <| UQ.then <| UW.region <| US.add rfl (by decide) rfl rfl rfl rfl (IntWalk.i64_in _ (by omega)) <| Q.mv rfl <| ?_
      exact US.round (a' := k + 1) ⟨by omega, fun j h3 h4 => by
        by_cases hjk : j = k
        · subst hjk; exact h2
        · exact hj j h3 (by omega)⟩ (by omega) ⟨rfl, rfl, rfl, rfl, rfl, trivial⟩ (.refl _)
  · have h := of_decide_eq_false h
    rw [List.length_map] at h
    refine UW.exit <| UQ.pass <| UQ.pass <| UQ.here <| UQ.then <| Q.rg <| Q.as rfl <| Q.nt <| UW.ret <| ?_
    refine retR [] (fun _ => res_tmp rfl rfl) (.refl _) fun hd => ⟨?_, rfl⟩
    rw [keyIdx_none (fun j h3 => hj j h3 (by omega))]; rfl
/-- A key's place in an object. -/
def pl (x : V) (key : ByteArray) : Option Nat := if x.k = 5 then (match keyIdx x.ks key with | some i => if i < x.vs.length then some i else none | none => none) else none
theorem place_spec (x : V) (key : ByteArray) (hx : Fits x) (H : Hp) :
    ACall Tryz.prog 61 [.agg (encV x), .v (.string key)] H (IsR H (.v (.int .i64 (oi (pl x key))))) := by
  cases hx with
  | mk k n t ks vs h1 h2 h =>
  refine UCall (n := 19) (H0 := H) (objs := []) Tryz.func61 (by kernel_rfl) rfl (by rw [Tryz.ntmps61]; rfl) .nil <| ?_
  refine Q.rg <| US.box rfl (by decide) rfl rfl rfl rfl (by rfl) fun p2 => ?_
  refine Q.as rfl <| Q.nt <| UW.seq <| Q.rg <| ?_
  by_cases hk : k = 5
  · refine US.fieldAddr rfl (by decide) rfl rfl rfl f26_0 <| Q.lc 0 ty3 rfl rfl rfl <| US.bin_int rfl (by decide) rfl rfl rfl rfl (r := .bool false) (by (simp [iop, sop, hk]; done)) <| ?_
    refine Q.nt <| UW.cond rfl (fun h => absurd h (by simp)) fun _ => ?_
    refine UW.skip <| UQ.then <| UW.seq <| Q.rg <| US.fieldAddr rfl (by decide) rfl rfl rfl f26_3 <| Q.lc 0 ty23 rfl rfl rfl <| Q.mv rfl <| US.call_pure rfl (by decide) rfl rfl rfl rfl (fun _ => index_spec ks key h1 _) <| Q.as rfl <| Q.nt <| Q.rg <| Q.mv rfl <| US.fieldAddr rfl (by decide) rfl rfl rfl f26_4 <| Q.lc 0 ty24 rfl rfl rfl <| US.len_sl rfl (by decide) rfl rfl sl24 rfl <| Q.bi rfl rfl rfl <| Q.nt <| ?_
    refine UW.cond rfl (fun h => ?_) (fun h => ?_)
    · refine Q.rg <| Q.mv rfl <| Q.as rfl <| Q.nt <| UW.ret <| UQ.passR <| ?_
      refine retR [] (fun _ => res_tmp rfl rfl) (by simp) fun hd => ⟨?_, rfl⟩
      have h := of_decide_eq_true h
      rw [encVs_len] at h
      simp only [pl, V.k, V.ks, V.vs, hk, if_true]
      cases hi : keyIdx ks key with
      | none => rfl
      | some i =>
        rw [hi] at h
        have hlt : i < vs.length := by simp only [oi] at h; omega
        simp [oi, hlt]
    · refine UW.skip <| UQ.then <| Q.rg <| Q.as rfl <| Q.nt <| UW.ret <| ?_
      refine retR [] (fun _ => res_tmp rfl rfl) (by simp) fun hd => ⟨?_, rfl⟩
      have h := of_decide_eq_false h
      rw [encVs_len] at h
      simp only [pl, V.k, V.ks, V.vs, hk, if_true]
      cases hi : keyIdx ks key with
      | none => rw [hi] at h; simp only [oi] at h; omega
      | some i =>
        rw [hi] at h
        have hlt : ¬ i < vs.length := by simp only [oi] at h; omega
        simp [oi, hlt]
  · refine US.fieldAddr rfl (by decide) rfl rfl rfl f26_0 <| Q.lc 0 ty3 rfl rfl rfl <| US.bin_int rfl (by decide) rfl rfl rfl rfl (r := .bool true) (by (simp [iop, sop, hk]; done)) <| ?_
    refine Q.nt <| ?_
    refine UW.cond rfl (fun _ => ?_) (fun h => absurd h (by simp))
    refine Q.rg <| Q.as rfl <| Q.nt <| UW.ret <| UQ.passR <| ?_
    refine retR [] (fun _ => res_tmp rfl rfl) (by simp) fun hd => ⟨?_, rfl⟩
    simp only [pl, V.k, hk, if_false]; rfl
theorem pl_lt {x : V} {key : ByteArray} {i : Nat} (h : pl x key = some i) : i < x.vs.length ∧ i < x.ks.length ∧ x.k = 5 := by
  unfold pl at h
  split at h
  · rename_i hk
    cases hi : keyIdx x.ks key with
    | none => rw [hi] at h; simp at h
    | some j =>
      rw [hi] at h
      simp only at h
      split at h
      · cases h; exact ⟨by assumption, keyIdx_lt hi, hk⟩
      · cases h
  · cases h
theorem Fits.vs {x : V} (h : Fits x) : ∀ y ∈ x.vs, Fits y := by cases h with | mk k n t ks vs h1 h2 h => exact h
theorem Fits.ksl {x : V} (h : Fits x) : x.ks.length ≤ 1000000 := by cases h with | mk k n t ks vs h1 h2 h => exact h1
theorem Fits.vsl {x : V} (h : Fits x) : x.vs.length ≤ 1000000 := by cases h with | mk k n t ks vs h1 h2 h => exact h2
/-- An object with as many keys as values. -/
def cutV (x : V) : V := .mk x.k x.n x.t (x.ks.take (min x.ks.length x.vs.length)) (x.vs.take (min x.ks.length x.vs.length))
theorem Fits.cut {x : V} (h : Fits x) : Fits (cutV x) := .mk _ _ _ _ _ (by rw [List.length_take]; have := h.ksl; omega) (by rw [List.length_take]; have := h.vsl; omega) (fun y hy => h.vs y (List.mem_of_mem_take hy))
theorem encVs_take (l : List V) (k : Nat) : encVs (l.take k) = (encVs l).take k := by rw [encVs_eq, encVs_eq, List.map_take]
theorem cut_spec (x : V) (hx : Fits x) (H : Hp) :
    ACall Tryz.prog 62 [.agg (encV x)] H (CopyR H (cutV x)) := by
  have hf := hx
  cases hx with
  | mk k n t ks vs h1 h2 h =>
  have hkl : (ks.map encS).length = ks.length := List.length_map ..
  have hvl := encVs_len vs
  refine UCall (n := 23) (H0 := H) (objs := []) Tryz.func62 (by kernel_rfl) rfl (by rw [Tryz.ntmps62]; rfl) .nil <| ?_
  refine Q.rg <| US.box rfl (by decide) rfl rfl rfl rfl (by rfl) fun p1 => ?_
  refine US.allocN rfl (by decide) rfl rfl z26 rfl rfl rfl rfl fun p2 => Q.nt <| Q.rg <| US.fieldAddr rfl (by decide) rfl rfl rfl f26_3 <| Q.lc 1 ty23 rfl rfl rfl <| US.len_sl rfl (by decide) rfl rfl sl23 rfl <| US.fieldAddr rfl (by decide) rfl rfl rfl f26_4 <| Q.lc 1 ty24 rfl rfl rfl <| US.len_sl rfl (by decide) rfl rfl sl24 rfl <| ?_
  refine US.min2' rfl (by decide) rfl rfl rfl rfl (r := ((min ks.length vs.length : Nat) : Int)) (by rw [hkl, hvl]; split <;> omega) ?_
  refine Q.as rfl <| Q.nt <| UW.seq <| ?_
  refine' UW.draw' (by kernel_rfl) [0, 1, 0, 7, 0, 16, 0, 112, 63, 319, 1023, 2047] [some 11, some 12, some 13, some 14, some 15, some 16, some 17, some 18, some 19, none, none, none] [some (11, _), some (12, _), some (13, _), some (14, _), some (15, _), some (16, _), some (17, _), some (18, _), some (19, _), none, none, none] [9, 10, 11] [1, 5] rfl (by decide) (by decide) (QAll.free (by decide) rfl rfl ?q0 (QAll.held (by decide) rfl rfl ?q1 (QAll.free (by decide) rfl rfl ?q2 (QAll.free (by decide) rfl rfl ?q3 (QAll.free (by decide) rfl rfl ?q4 (QAll.held (by decide) rfl rfl ?q5 (QAll.free (by decide) rfl rfl ?q6 (QAll.free (by decide) rfl rfl ?q7 (QAll.free (by decide) rfl rfl ?q8 (QAll.skip (QAll.skip (QAll.skip QAll.nil)))))))))))) ?k
  case q0 => exact QF.fieldAddr rfl rfl rfl f26_3
  case q1 => exact QS.ld_cell rfl rfl ty23 rfl (k := 1) rfl rfl
  case q2 => exact QF.move rfl rfl rfl
  case q3 => exact QF.slice_sl rfl rfl sl23 rfl (by exact strs_sz _) (.hi rfl) (by omega) (by omega) rfl
  case q4 => exact QF.fieldAddr rfl rfl rfl f26_4
  case q5 => exact QS.ld_cell rfl rfl ty24 rfl (k := 1) rfl rfl
  case q6 => exact QF.move rfl rfl rfl
  case q7 => exact QF.slice_sl rfl rfl sl24 rfl (by exact encVs_sz _) (.hi rfl) (by omega) (by omega) rfl
  case q8 => exact QF.fieldAddr rfl rfl rfl f26_3
  refine CH.cons0 rfl rfl <| DS.st_box rfl rfl ty23 rfl (k := 1) rfl rfl rfl (by rfl) (by rfl) rfl rfl fun _ => ?_
  refine CH.cons rfl rfl (by decide) <| DS.qs (by exact QS.fieldAddr rfl rfl rfl f26_4) <| ?_
  refine CH.cons0 rfl rfl <| DS.st_box rfl rfl ty24 rfl (k := 1) rfl rfl rfl (by rfl) (by rfl) rfl rfl fun _ => ?_
  refine CH.nil <| ?_
  simp only [app, finL]
  have e1 : List.drop 0 (List.take (min ks.length vs.length) (encVs vs)) = encVs (vs.take (min ks.length vs.length)) := by rw [List.drop_zero, encVs_take]
  have e2 : List.drop 0 (List.take (min ks.length vs.length) (ks.map encS)) = (ks.take (min ks.length vs.length)).map encS := by rw [List.drop_zero, List.map_take]
  rw [e1, e2]
  refine UQ.then <| Q.rg <| US.ld_whole rfl (by decide) rfl rfl ty26 rfl (k := 1) rfl (by rfl) <| ?_
  refine US.call_new rfl (by decide) rfl rfl rfl rfl (fun _ => copy_spec (cutV (.mk k n t ks vs)) hf.cut _) ?_; rintro _ _ ⟨i, j, rfl, rfl⟩
  refine US.st_whole rfl rfl rfl ty26 rfl (k := 2) rfl (by rfl) rfl rfl (by rfl) (by rfl) rfl <| ?_
  refine Q.nt <| UW.ret <| ?_
  simp only [List.set_cons_succ, List.set_cons_zero, List.cons_append, List.nil_append]
  refine retR [_, _] (fun hd => res_cell (k := 2) hd rfl rfl rfl st26 sz26) (.cons_cons _ (.cons_cons _ (List.nil_sublist _))) fun hd => ?_
  exact ⟨_, hd, rfl, i, j, rfl, rfl⟩
end Go.Proofs.YtgmfgmbgmjbdhaaGreatDoor
end
section
namespace Go.Proofs.YtgmfgmbgmjbdhaaGreatDoor
open Go Go.RowKit Go.Eng
set_option maxRecDepth 100000
set_option linter.unusedSimpArgs false
set_option linter.unusedVariables false
/-- Without the element at i. -/
def cutAt {α : Type} (l : List α) (i : Nat) : List α := l.take i ++ l.drop (i + 1)
theorem cutAt_len {α : Type} {l : List α} {i : Nat} (h : i < l.length) : (cutAt l i).length = l.length - 1 := by unfold cutAt; simp; omega
theorem clear_tail {α : Type} (l : List α) (i : Nat) (z : α) (h : i < l.length) (m : Nat) (hm : m = l.length - 1) (A : List α) (hA : A = cutAt l i ++ l.drop m) (q : Nat) (hq : q = l.length - m) (q2 : Nat) (hq2 : q2 = m + q) :
    A.take m ++ List.replicate q z ++ A.drop q2 = cutAt l i ++ [z] := by
  subst hA hm hq hq2
  have e2 : l.length - (l.length - 1) = 1 := by omega
  have e3 := cutAt_len h
  rw [e2, List.take_append_of_le_length (by omega), List.take_of_length_le (by omega), List.drop_of_length_le (by rw [List.length_append, e3, List.length_drop]; omega), List.append_nil]
  rfl
theorem deleteS_spec (rows : List (List AV)) (len : Nat) (hlen0 : len = rows.length) (hr : ∀ cs ∈ rows, cs.length = 1) (i : Nat) (hi : i < rows.length) (hb : rows.length ≤ 1000000) (id : Nat) (H : Hp) (hH : H id = none) :
    ACall Tryz.prog 81 [.own id 0 len 1, .v (.int .i64 (i : Int)), .v (.int .i64 ((i + 1 : Nat) : Int))] (extH H [(id, .row 9 1 rows)])
      (fun u H' => u = .own id 0 (len - 1) 1 ∧ H' = extH H [(id, .row 9 1 (cutAt rows i ++ [[.v (.string ⟨#[]⟩)]]))]) := by
  subst hlen0
  refine UCall (n := 33) (H0 := H) (objs := [(id, .row 9 1 rows)]) Tryz.func81 (by kernel_rfl) rfl (by rw [Tryz.ntmps81]; rfl) (.cons hH .nil) <| ?_
  refine Q.rg <| Q.as rfl <| Q.nt <| Q.rg <| Q.mv rfl <| Q.mv rfl <| Q.mv rfl <| Q.mv rfl <| US.len_own rfl (by decide) rfl rfl sl23 rfl <| US.qs rfl (by decide) (QS.slice3_own rfl rfl sl23 rfl rfl rfl rfl (by omega) (by omega) (by omega)) <| Q.nt <| UW.seq <| Q.rg <| ?_
  have hne : ¬ ((i : Int) = (i : Int) + 1) := by omega
  refine Q.mv rfl <| Q.mv rfl <| US.bin_int rfl (by decide) rfl rfl rfl rfl (r := .bool false) (by (simp [iop, sop, hne]; done)) <| ?_
  refine Q.nt <| UW.cond rfl (fun h => absurd h (by simp)) fun _ => ?_
  refine UW.skip <| UQ.then <| Q.rg <| Q.mv rfl <| US.len_own rfl (by decide) rfl rfl sl23 rfl <| Q.as rfl <| Q.nt <| UW.seq <| ?_
  refine' UW.draw' (by kernel_rfl) [0, 0, 3, 0, 0, 24, 63, 127] [some 20, some 21, some 22, some 23, some 24, some 25, none, none] [some (20, _), some (21, _), some (22, _), some (23, _), some (24, _), some (25, _), none, none] [6, 7] [] rfl (by decide) (by decide) (QAll.free (by decide) rfl rfl ?q0 (QAll.free (by decide) rfl rfl ?q1 (QAll.free (by decide) rfl rfl ?q2 (QAll.free (by decide) rfl rfl ?q3 (QAll.free (by decide) rfl rfl ?q4 (QAll.free (by decide) rfl rfl ?q5 (QAll.skip (QAll.skip QAll.nil)))))))) ?k
  case q0 => exact QF.move rfl rfl rfl
  case q1 => exact QF.move rfl rfl rfl
  case q2 => exact QF.slice_own rfl rfl sl23 rfl (.hi rfl) (by omega) (by omega)
  case q3 => exact QF.move rfl rfl rfl
  case q4 => exact QF.move rfl rfl rfl
  case q5 => exact QF.slice_own rfl rfl sl23 rfl (.lo rfl) (by omega) (by omega)
  refine CH.cons rfl rfl (by decide) <| DS.append_in rfl rfl row23 rfl rfl (k := 0) rfl (.own (k := 0) rfl (by omega) rfl) (by rw [List.length_take, List.length_drop]; omega) rfl rfl <| ?_
  refine CH.cons rfl rfl (by decide) <| DS.qs (by exact QS.assign rfl rfl rfl) <| ?_
  refine CH.nil <| ?_
  simp only [app, finL]
  have e0 : i - 0 + (List.take (rows.length - (i + 1)) (List.drop (0 + (i + 1)) rows)).length = rows.length - 1 := by rw [List.length_take, List.length_drop]; omega
  have e1 : List.take (i - 0) rows ++ List.take (rows.length - (i + 1)) (List.drop (0 + (i + 1)) rows) = cutAt rows i := by
    rw [Nat.zero_add, List.take_of_length_le (l := List.drop (i + 1) rows) (by rw [List.length_drop]; omega)]; rfl
  have hcl := cutAt_len hi
  have hlen : (cutAt rows i ++ List.drop (rows.length - 1) rows).length = rows.length := by rw [List.length_append, hcl, List.length_drop]; omega
  rw [e0, e1]
  refine UQ.then <| Q.rg <| Q.mv rfl <| Q.mv rfl <| US.len_own rfl (by decide) rfl rfl sl23 rfl <| Q.mv rfl <| US.slice_ext rfl (by decide) rfl rfl sl23 rfl (k := 0) rfl rfl rfl (by omega) (by rw [hlen]; omega) <| ?_
  refine US.clear rfl rfl rfl row23 rfl (k := 0) rfl (by rw [hlen]; omega) z9 rfl (clear_tail rows i _ hi (rows.length - 1) rfl _ rfl _ rfl _ rfl) rfl <| ?_
  refine Q.nt <| Q.rg <| Q.mv rfl <| Q.as rfl <| Q.nt <| UW.ret <| ?_
  exact retR [_] (fun _ => res_tmp rfl rfl) (List.Sublist.refl _) fun hd => ⟨rfl, rfl⟩
theorem deleteV_spec (rows : List (List AV)) (len : Nat) (hlen0 : len = rows.length) (hr : ∀ cs ∈ rows, cs.length = 5) (i : Nat) (hi : i < rows.length) (hb : rows.length ≤ 1000000) (id : Nat) (H : Hp) (hH : H id = none) :
    ACall Tryz.prog 82 [.own id 0 len 5, .v (.int .i64 (i : Int)), .v (.int .i64 ((i + 1 : Nat) : Int))] (extH H [(id, .row 26 5 rows)])
      (fun u H' => u = .own id 0 (len - 1) 5 ∧ H' = extH H [(id, .row 26 5 (cutAt rows i ++ [[.v (.int .i64 0), .v (.int .i64 0), .v (.string ⟨#[]⟩), .v (.slice none 0 0), .v (.slice none 0 0)]]))]) := by
  subst hlen0
  refine UCall (n := 33) (H0 := H) (objs := [(id, .row 26 5 rows)]) Tryz.func82 (by kernel_rfl) rfl (by rw [Tryz.ntmps82]; rfl) (.cons hH .nil) <| ?_
  refine Q.rg <| Q.as rfl <| Q.nt <| Q.rg <| Q.mv rfl <| Q.mv rfl <| Q.mv rfl <| Q.mv rfl <| US.len_own rfl (by decide) rfl rfl sl24 rfl <| US.qs rfl (by decide) (QS.slice3_own rfl rfl sl24 rfl rfl rfl rfl (by omega) (by omega) (by omega)) <| Q.nt <| UW.seq <| Q.rg <| ?_
  have hne : ¬ ((i : Int) = (i : Int) + 1) := by omega
  refine Q.mv rfl <| Q.mv rfl <| US.bin_int rfl (by decide) rfl rfl rfl rfl (r := .bool false) (by (simp [iop, sop, hne]; done)) <| ?_
  refine Q.nt <| UW.cond rfl (fun h => absurd h (by simp)) fun _ => ?_
  refine UW.skip <| UQ.then <| Q.rg <| Q.mv rfl <| US.len_own rfl (by decide) rfl rfl sl24 rfl <| Q.as rfl <| Q.nt <| UW.seq <| ?_
  refine' UW.draw' (by kernel_rfl) [0, 0, 3, 0, 0, 24, 63, 127] [some 20, some 21, some 22, some 23, some 24, some 25, none, none] [some (20, _), some (21, _), some (22, _), some (23, _), some (24, _), some (25, _), none, none] [6, 7] [] rfl (by decide) (by decide) (QAll.free (by decide) rfl rfl ?q0 (QAll.free (by decide) rfl rfl ?q1 (QAll.free (by decide) rfl rfl ?q2 (QAll.free (by decide) rfl rfl ?q3 (QAll.free (by decide) rfl rfl ?q4 (QAll.free (by decide) rfl rfl ?q5 (QAll.skip (QAll.skip QAll.nil)))))))) ?k
  case q0 => exact QF.move rfl rfl rfl
  case q1 => exact QF.move rfl rfl rfl
  case q2 => exact QF.slice_own rfl rfl sl24 rfl (.hi rfl) (by omega) (by omega)
  case q3 => exact QF.move rfl rfl rfl
  case q4 => exact QF.move rfl rfl rfl
  case q5 => exact QF.slice_own rfl rfl sl24 rfl (.lo rfl) (by omega) (by omega)
  refine CH.cons rfl rfl (by decide) <| DS.append_in rfl rfl row24 rfl rfl (k := 0) rfl (.own (k := 0) rfl (by omega) rfl) (by rw [List.length_take, List.length_drop]; omega) rfl rfl <| ?_
  refine CH.cons rfl rfl (by decide) <| DS.qs (by exact QS.assign rfl rfl rfl) <| ?_
  refine CH.nil <| ?_
  simp only [app, finL]
  have e0 : i - 0 + (List.take (rows.length - (i + 1)) (List.drop (0 + (i + 1)) rows)).length = rows.length - 1 := by rw [List.length_take, List.length_drop]; omega
  have e1 : List.take (i - 0) rows ++ List.take (rows.length - (i + 1)) (List.drop (0 + (i + 1)) rows) = cutAt rows i := by
    rw [Nat.zero_add, List.take_of_length_le (l := List.drop (i + 1) rows) (by rw [List.length_drop]; omega)]; rfl
  have hcl := cutAt_len hi
  have hlen : (cutAt rows i ++ List.drop (rows.length - 1) rows).length = rows.length := by rw [List.length_append, hcl, List.length_drop]; omega
  rw [e0, e1]
  refine UQ.then <| Q.rg <| Q.mv rfl <| Q.mv rfl <| US.len_own rfl (by decide) rfl rfl sl24 rfl <| Q.mv rfl <| US.slice_ext rfl (by decide) rfl rfl sl24 rfl (k := 0) rfl rfl rfl (by omega) (by rw [hlen]; omega) <| ?_
  refine US.clear rfl rfl rfl row24 rfl (k := 0) rfl (by rw [hlen]; omega) z26 rfl (clear_tail rows i _ hi (rows.length - 1) rfl _ rfl _ rfl _ rfl) rfl <| ?_
  refine Q.nt <| Q.rg <| Q.mv rfl <| Q.as rfl <| Q.nt <| UW.ret <| ?_
  exact retR [_] (fun _ => res_tmp rfl rfl) (List.Sublist.refl _) fun hd => ⟨rfl, rfl⟩
/-- Reading: the value under a key. -/
def zeroV : V := .mk 0 0 ⟨#[]⟩ [] []
def getV (x : V) (key : ByteArray) : V × Bool := match pl x key with
  | some i => (x.vs.getD i zeroV, true)
  | none => (zeroV, false)
theorem getD_at {α : Type} {l : List α} {i : Nat} {z : α} (h : i < l.length) : l.getD i z = l[i] := by simp [List.getD, h]
theorem getD_mem {α : Type} {l : List α} {i : Nat} {z : α} (h : i < l.length) : l.getD i z ∈ l := by rw [getD_at h]; exact List.getElem_mem h
theorem encVs_at (l : List V) (i : Nat) (h : i < l.length) : (encVs l)[((i : Nat) : Int).toNat]? = some (encV (l.getD i zeroV)) := by
  rw [Int.toNat_natCast, encVs_get l i h, getD_at h]
theorem get_spec (x : V) (hx : Fits x) (s : ByteArray) (H : Hp) :
    ACall Tryz.prog 38 [.agg (encV x), .v (.string s)] H (IsR H (.tup [.agg (encV (getV x s).1), .v (.bool (getV x s).2)])) := by
  obtain ⟨k, n, t, ks, vs⟩ := x
  refine UCall (n := 19) (H0 := H) (objs := []) Tryz.func38 (by kernel_rfl) rfl (by rw [Tryz.ntmps38]; rfl) .nil <| ?_
  refine Q.rg <| US.box rfl (by decide) rfl rfl rfl rfl (by rfl) fun p2 => ?_
  refine US.allocN rfl (by decide) rfl rfl z26 rfl rfl rfl rfl fun p4 => Q.as rfl <| Q.nt <| Q.rg <| US.ld_whole rfl (by decide) rfl rfl ty26 rfl (k := 1) rfl (by rfl) <| ?_
  refine Q.mv rfl <| US.call_pure rfl (by decide) rfl rfl rfl rfl (fun _ => place_spec _ s hx _) <| Q.as rfl <| Q.nt <| UW.seq <| Q.rg <| ?_
  cases hp : pl (.mk k n t ks vs) s with
  | none =>
    have hg : getV (.mk k n t ks vs) s = (zeroV, false) := by unfold getV; rw [hp]
    rw [hg]
    refine Q.mv rfl <| Q.bi rfl rfl rfl <| Q.nt <| ?_
    refine UW.cond rfl (fun _ => ?_) (fun h => absurd h (by simp [oi]))
    refine Q.rg <| US.buildN [] rfl (by decide) rfl rfl bt26 rfl rfl rfl rfl rfl rfl rfl rfl <| US.st_whole rfl rfl rfl ty26 rfl (k := 0) rfl (by rfl) rfl rfl (by rfl) (by rfl) rfl <| ?_
    refine Q.as rfl <| Q.nt <| UW.ret <| UQ.passR <| ?_
    exact retR [] (fun hd => res_two rfl (res1_cell (k := 0) hd rfl rfl st26 sz26) (res1_tmp rfl)) (by simp) fun hd => ⟨rfl, rfl⟩
  | some i =>
    obtain ⟨hlt, _, _⟩ := pl_lt hp
    simp only [V.vs] at hlt
    have hg : getV (.mk k n t ks vs) s = (vs.getD i zeroV, true) := by unfold getV; rw [hp]; rfl
    rw [hg]
    refine Q.mv rfl <| Q.bi rfl rfl rfl <| Q.nt <| UW.cond rfl (fun h => absurd (of_decide_eq_true h) (by simp only [oi]; omega)) fun _ => ?_
    refine UW.skip <| UQ.then <| Q.rg <| US.fieldAddr rfl (by decide) rfl rfl rfl f26_4 <| Q.lc 1 ty24 rfl rfl rfl <| Q.mv rfl <| US.indexAddr_sl rfl (by decide) rfl rfl sl24 rfl rfl (by simp [oi]) (encVs_at _ i hlt) (encV_len _) <| ?_
    refine US.load_rp_agg rfl (by decide) rfl rfl rfl ty26 (by exact encV_len _) <| ?_
    refine US.call_pure rfl (by decide) rfl rfl rfl rfl (fun _ => copyR_pure (copy_spec _ (hx.vs _ (getD_mem hlt)) _)) <| US.st_whole rfl rfl rfl ty26 rfl (k := 0) rfl (by rfl) rfl rfl (by exact encV_cell _) (by exact encV_len _) rfl <| ?_
    refine Q.as rfl <| Q.nt <| UW.ret <| ?_
    exact retR [] (fun hd => res_two rfl (res1_cell (k := 0) hd rfl rfl st26 (by rw [encV_len]; exact sz26)) (res1_tmp rfl)) (by simp) fun hd => ⟨rfl, rfl⟩
/-- A value without a key. -/
def withoutV (x : V) (key : ByteArray) : V := match pl x key with
  | some i => .mk x.k x.n x.t (cutAt (cutV x).ks i) (cutAt (cutV x).vs i)
  | none => x
/-- A value whose lists lie in rows of their own, which may be longer. -/
def OwnV (H : Hp) (x : V) (u : AV) (H' : Hp) : Prop := ∃ news, Dist H news ∧ H' = extH H news ∧ ∃ i j rk rv, u = .agg [.v (.int .i64 x.k), .v (.int .i64 x.n), .v (.string x.t), .own i 0 x.ks.length 1, .own j 0 x.vs.length 5] ∧ news = [(j, .row 26 5 rv), (i, .row 9 1 rk)] ∧
  x.ks.length ≤ rk.length ∧ rk.take x.ks.length = x.ks.map encS ∧ x.vs.length ≤ rv.length ∧ rv.take x.vs.length = encVs x.vs
theorem own_sl {H : Hp} {news : List (Nat × Ob)} (hd : Dist H news) {k i len : Nat} {rows rs : List (List AV)} {e sz : Nat} (h : news[k]? = some (i, .row e sz rows)) (hl : len ≤ rows.length) (hr : rows.take len = rs) : Turns (extH H news) (.own i 0 len sz) H (.sl rs) := by
  have h1 := Turns.own (off := 0) (len := len) (rows' := rows) (extH_sub hd) (hd.at_ h) (hd.base h) (by omega) rfl (fun i cs cs' h1 h2 => by
    rw [h1] at h2; cases h2
    exact ⟨rfl, fun j u u' h3 h4 => by rw [h3] at h4; cases h4; exact Turns.drop (extH_sub hd) u⟩)
  rw [← hr]
  simpa using h1
theorem ownV_pure {P : Program} {f : Nat} {us : List AV} {H : Hp} {x : V} (h : ACall P f us H (OwnV H x)) : ACall P f us H (IsR H (.agg (encV x))) := by
  refine h.post <| ?_
  rintro u H1 ⟨news, hd, rfl, i, j, rk, rv, rfl, rfl, h1, h2, h3, h4⟩
  refine ⟨.agg (encV x), H, extH_sub hd, ?_, rfl, rfl⟩
  obtain ⟨k, n, t, ks, vs⟩ := x
  simp only [encV, V.k, V.n, V.t, V.ks, V.vs] at hd h1 h2 h3 h4 ⊢
  exact turns_five (extH_sub hd) (own_sl hd (k := 1) rfl h1 h2) (own_sl hd (k := 0) rfl h3 h4)
theorem cutAt_map {α β : Type} (f : α → β) (l : List α) (i : Nat) : (cutAt l i).map f = cutAt (l.map f) i := by unfold cutAt; rw [List.map_append, List.map_take, List.map_drop]
theorem without_spec (x : V) (hx : Fits x) (s : ByteArray) (H : Hp) :
    ACall Tryz.prog 41 [.agg (encV x), .v (.string s)] H (IsR H (.agg (encV (withoutV x s)))) := by
  obtain ⟨k, n, t, ks, vs⟩ := x
  cases hp : pl (.mk k n t ks vs) s with
  | none =>
    have hg : withoutV (.mk k n t ks vs) s = .mk k n t ks vs := by unfold withoutV; rw [hp]
    rw [hg]
    refine UCall (n := 30) (H0 := H) (objs := []) Tryz.func41 (by kernel_rfl) rfl (by rw [Tryz.ntmps41]; rfl) .nil <| ?_
    refine Q.rg <| US.box rfl (by decide) rfl rfl rfl rfl (by rfl) fun p2 => ?_
    refine US.allocN rfl (by decide) rfl rfl z26 rfl rfl rfl rfl fun p4 => Q.nt <| Q.rg <| US.ld_whole rfl (by decide) rfl rfl ty26 rfl (k := 1) rfl (by rfl) <| ?_
    refine Q.mv rfl <| US.call_pure rfl (by decide) rfl rfl rfl rfl (fun _ => place_spec _ s hx _) <| Q.as rfl <| Q.nt <| UW.seq <| Q.rg <| Q.mv rfl <| Q.bi rfl rfl rfl <| Q.nt <| ?_
    rw [hp]
    refine UW.cond rfl (fun _ => ?_) (fun h => absurd h (by simp [oi]))
    refine Q.rg <| US.ld_whole rfl (by decide) rfl rfl ty26 rfl (k := 1) rfl (by rfl) <| ?_
    refine US.call_pure rfl (by decide) rfl rfl rfl rfl (fun _ => copyR_pure (copy_spec _ hx _)) <| US.st_whole rfl rfl rfl ty26 rfl (k := 0) rfl (by rfl) rfl rfl (by rfl) (by rfl) rfl <| ?_
    refine Q.nt <| UW.ret <| UQ.passR <| ?_
    exact retR [] (fun hd => res_cell (k := 0) hd rfl rfl rfl st26 sz26) (by simp) fun hd => ⟨rfl, rfl⟩
  | some i =>
    obtain ⟨hlt, hlk, _⟩ := pl_lt hp
    simp only [V.vs] at hlt
    simp only [V.ks] at hlk
    have hg : withoutV (.mk k n t ks vs) s = .mk k n t (cutAt (cutV (.mk k n t ks vs)).ks i) (cutAt (cutV (.mk k n t ks vs)).vs i) := by unfold withoutV; rw [hp]; rfl
    rw [hg]
    have hcf : Fits (cutV (.mk k n t ks vs)) := hx.cut
    have hck : i < (cutV (.mk k n t ks vs)).ks.length := by simp only [cutV, V.ks, V.vs, List.length_take]; omega
    have hcv : i < (cutV (.mk k n t ks vs)).vs.length := by simp only [cutV, V.ks, V.vs, List.length_take]; omega
    have hbv := hcf.vsl
    refine ownV_pure <| UCall (n := 30) (H0 := H) (objs := []) Tryz.func41 (by kernel_rfl) rfl (by rw [Tryz.ntmps41]; rfl) .nil <| ?_
    refine Q.rg <| US.box rfl (by decide) rfl rfl rfl rfl (by rfl) fun p2 => ?_
    refine US.allocN rfl (by decide) rfl rfl z26 rfl rfl rfl rfl fun p4 => Q.nt <| Q.rg <| US.ld_whole rfl (by decide) rfl rfl ty26 rfl (k := 1) rfl (by rfl) <| ?_
    refine Q.mv rfl <| US.call_pure rfl (by decide) rfl rfl rfl rfl (fun _ => place_spec _ s hx _) <| Q.as rfl <| Q.nt <| UW.seq <| Q.rg <| Q.mv rfl <| Q.bi rfl rfl rfl <| Q.nt <| ?_
    rw [hp]
    simp only [oi]
    refine UW.cond rfl (fun h => absurd (of_decide_eq_true h) (by omega)) fun _ => UW.skip <| UQ.then <| Q.rg <| US.ld_whole rfl (by decide) rfl rfl ty26 rfl (k := 1) rfl (by rfl) <| ?_
    refine US.call_new rfl (by decide) rfl rfl rfl rfl (fun _ => cut_spec _ hx _) ?_; rintro _ _ ⟨pi, pj, rfl, rfl⟩
    refine US.st_whole rfl rfl rfl ty26 rfl (k := 3) rfl (by rfl) rfl rfl (by rfl) (by rfl) rfl <| ?_
    refine Q.nt <| Q.rg <| US.fieldAddr rfl (by decide) rfl rfl rfl f26_3 <| Q.lc 3 ty23 rfl rfl rfl <| Q.mv rfl <| Q.mv rfl <| US.add rfl (by decide) rfl rfl rfl rfl (r := ((i + 1 : Nat) : Int)) (IntWalk.i64_in _ (by omega)) <| US.call_own 1 rfl (by decide) rfl rfl rfl rfl rfl (fun G hG => deleteS_spec _ _ (List.length_map ..).symm (strs_sz _) i (by rw [List.length_map]; exact hck) (by rw [List.length_map]; exact hcf.ksl) pi G hG) rfl <| ?_
    refine US.fieldAddr rfl (by decide) rfl rfl rfl f26_3 <| US.st_box rfl rfl rfl ty23 rfl (k := 3) rfl rfl rfl (by rfl) (by rfl) rfl rfl <| ?_
    refine Q.nt <| Q.rg <| US.fieldAddr rfl (by decide) rfl rfl rfl f26_4 <| Q.lc 3 ty24 rfl rfl rfl <| Q.mv rfl <| Q.mv rfl <| US.add rfl (by decide) rfl rfl rfl rfl (r := ((i + 1 : Nat) : Int)) (IntWalk.i64_in _ (by omega)) <| US.call_own 0 rfl (by decide) rfl rfl rfl rfl rfl (fun G hG => deleteV_spec _ _ (encVs_len _).symm (encVs_sz _) i (by rw [encVs_len]; exact hcv) (by rw [encVs_len]; exact hcf.vsl) pj G hG) rfl <| ?_
    refine US.fieldAddr rfl (by decide) rfl rfl rfl f26_4 <| US.st_box rfl rfl rfl ty24 rfl (k := 3) rfl rfl rfl (by rfl) (by rfl) rfl rfl <| ?_
    refine Q.nt <| Q.rg <| US.ld_whole rfl (by decide) rfl rfl ty26 rfl (k := 3) rfl (by rfl) <| ?_
    refine US.st_whole rfl rfl rfl ty26 rfl (k := 2) rfl (by rfl) rfl rfl (by rfl) (by rfl) rfl <| ?_
    refine Q.nt <| UW.ret <| ?_
    simp only [List.set_cons_succ, List.set_cons_zero, List.cons_append, List.nil_append]
    refine retR [_, _] (fun hd => res_cell (k := 2) hd rfl rfl rfl st26 sz26) (.cons_cons _ (.cons_cons _ (List.nil_sublist _))) fun hd => ?_
    have e1 := cutAt_len hck
    have e2 := cutAt_len hcv
    have e3 : (cutAt ((cutV (.mk k n t ks vs)).ks.map encS) i).length = (cutV (.mk k n t ks vs)).ks.length - 1 := by rw [← cutAt_map, List.length_map, e1]
    have e4 : (cutAt (encVs (cutV (.mk k n t ks vs)).vs) i).length = (cutV (.mk k n t ks vs)).vs.length - 1 := by rw [encVs_eq, ← cutAt_map, List.length_map, e2]
    refine ⟨_, hd, rfl, pi, pj, _, _, ?_, rfl, ?_, ?_, ?_, ?_⟩
    · show _ = AV.agg [_, _, _, .own pi 0 (cutAt (cutV (.mk k n t ks vs)).ks i).length 1, .own pj 0 (cutAt (cutV (.mk k n t ks vs)).vs i).length 5]
      rw [e1, e2]; rfl
    · show (cutAt (cutV (.mk k n t ks vs)).ks i).length ≤ _
      rw [List.length_append, e3, e1]; omega
    · show List.take (cutAt (cutV (.mk k n t ks vs)).ks i).length _ = (cutAt (cutV (.mk k n t ks vs)).ks i).map encS
      rw [e1, ← e3, List.take_left, cutAt_map]
    · show (cutAt (cutV (.mk k n t ks vs)).vs i).length ≤ _
      rw [List.length_append, e4, e2]; omega
    · show List.take (cutAt (cutV (.mk k n t ks vs)).vs i).length _ = encVs (cutAt (cutV (.mk k n t ks vs)).vs i)
      rw [e2, ← e4, List.take_left, encVs_eq, encVs_eq, cutAt_map]
end Go.Proofs.YtgmfgmbgmjbdhaaGreatDoor
end
