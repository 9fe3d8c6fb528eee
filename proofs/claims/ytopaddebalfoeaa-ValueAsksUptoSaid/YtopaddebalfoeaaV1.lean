/- Copies. -/
import Derived.Test.YtopaddebalfoeaaV0
namespace Go.Proofs.Ytopaddebalfoeaa
open Go Go.RowKit Go.Eng
set_option linter.unusedSimpArgs false
set_option linter.unusedVariables false
/-- A new row of one's own, beside the heap. -/
def NewRow (H : Hp) (e sz : Nat) (rows : List (List AV)) (u : AV) (H' : Hp) : Prop := ∃ news, Dist H news ∧ H' = extH H news ∧ ∃ i, u = .own i 0 rows.length sz ∧ news = [(i, .row e sz rows)]
theorem strs_sz (l : List ByteArray) : ∀ cs ∈ l.map encS, cs.length = 1 := by
  intro cs h; obtain ⟨s, _, rfl⟩ := List.mem_map.1 h; rfl
theorem encVs_len (l : List V) : (encVs l).length = l.length := by rw [encVs_eq, List.length_map]
theorem encVs_sz (l : List V) : ∀ cs ∈ encVs l, cs.length = 5 := by
  intro cs h; rw [encVs_eq] at h; obtain ⟨s, _, rfl⟩ := List.mem_map.1 h; exact encV_len s
theorem clone_spec (l : List ByteArray) (hl : l.length * 16 ≤ 140737488355328) (H : Hp) :
    ACall Try.prog 56 [strs l] H (NewRow H 9 1 (l.map encS)) := by
  refine UCall (n := 8) (H0 := H) (objs := []) Try.func56 (by kernel_rfl) rfl (by rw [Try.ntmps56]; rfl) .nil <| ?_
  refine Q.rg <| Q.as rfl <| Q.nt <| UW.seq <| Q.rg <| Q.mv rfl <| US.eql_nil rfl (by decide) rfl rfl Try.underlying24 rfl fun c4 hc4 => Q.nt <| ?_
  refine UW.cond rfl (fun h => ?_) (fun h => ?_)
  · have hl0 := hc4 h
    refine Q.rg <| Q.as rfl <| US.nilOwn 2 9 1 (by decide) rfl fun i => US.nil <| UQ.then <| UW.ret <| UQ.passR <| retR [(i, .row 9 1 [])] (fun _ => res_tmp rfl rfl) (by simp) fun hd => ?_
    exact ⟨_, hd, rfl, i, by rw [hl0]; rfl, by rw [hl0]⟩
  · refine UW.skip <| UQ.then <| Q.rg <| US.lit rfl (by decide) rfl rfl row24 (by decide) rfl rfl rfl (by simp) fun p5 => ?_
    refine Q.mv rfl <| US.append_own rfl (by decide) rfl rfl row24 rfl (k := 0) rfl (by simp) rfl (SrcO.sl (strs_sz l)) (by simp; omega) rfl fun p7 => ?_
    refine Q.as rfl <| Q.nt <| UW.ret <| retR [(p7, _)] (fun _ => res_tmp rfl rfl) (.refl _) fun hd => ?_
    exact ⟨_, hd, rfl, p7, by simp, by simp⟩
/-- The parts of a list are small. -/
inductive Fits : V → Prop
  | mk (k n : Int) (t : ByteArray) (ks : List ByteArray) (vs : List V) (h1 : ks.length ≤ 1000000) (h2 : vs.length ≤ 1000000) (h : ∀ x ∈ vs, Fits x) : Fits (.mk k n t ks vs)
/-- What a copy gives: its rows are new. -/
def CopyR (H : Hp) (x : V) (u : AV) (H' : Hp) : Prop := ∃ news, Dist H news ∧ H' = extH H news ∧ ∃ i j, u = .agg [.v (.int .i64 x.k), .v (.int .i64 x.n), .v (.string x.t), .own i 0 x.ks.length 1, .own j 0 x.vs.length 5] ∧ news = [(j, .row 27 5 (encVs x.vs)), (i, .row 9 1 (x.ks.map encS))]
theorem encVs_get (l : List V) (k : Nat) (h : k < l.length) : (encVs l)[k]? = some (encV l[k]) := by rw [encVs_eq, List.getElem?_map, List.getElem?_eq_getElem h]; rfl
theorem encVs_snoc (l : List V) (k : Nat) (h : k < l.length) : (encVs l).take k ++ [encV l[k]] = (encVs l).take (k + 1) := by
  rw [List.take_add_one, encVs_get l k h]; rfl
theorem eachCopy_spec (l : List V) (hl : l.length ≤ 1000000) (hc : ∀ x ∈ l, ∀ H, ACall Try.prog 25 [.agg (encV x)] H (IsR H (.agg (encV x)))) (H : Hp) :
    ACall Try.prog 57 [.sl (encVs l), .clo 25 []] H (NewRow H 27 5 (encVs l)) := by
  refine UCall (n := 22) (H0 := H) (objs := []) Try.func57 (by kernel_rfl) rfl (by rw [Try.ntmps57]; rfl) .nil <| ?_
  refine Q.rg <| Q.as rfl <| Q.nt <| Q.rg <| Q.as rfl <| US.nilOwn 5 27 5 (by decide) rfl fun i0 => US.nil <| UQ.then <| UW.seq <| Q.rg <| Q.mv rfl <| US.len_sl rfl (by decide) rfl rfl sl25 rfl <| Q.mv rfl <| Q.nt <| UW.block <| UW.loop (fun p : Nat × Nat => [(10, .v (.int .i64 (p.1 : Int))), (5, .own p.2 0 p.1 5), (8, .sl (encVs l)), (9, .v (.int .i64 ((encVs l).length : Int))), (1, .clo 25 [])]) (fun p => [(p.2, .row 27 5 ((encVs l).take p.1))]) (fun p => p.1 ≤ l.length) (fun p => l.length - p.1) (0, i0) (Nat.zero_le _) ⟨rfl, rfl, rfl, rfl, rfl, trivial⟩ (.refl _) <| ?_
  rintro ⟨k, id⟩ hk
  simp only at hk
  have hll := encVs_len l
  refine Q.rg <| Q.bi rfl rfl rfl <| Q.nt <| UW.seq <| ?_
  refine UW.cond rfl (fun h => ?_) (fun h => ?_)
  · have h := of_decide_eq_true h
    have hlt : k < l.length := by omega
    refine UW.skip <| UQ.then <| UW.seq <| UW.block <| Q.rg <| US.indexAddr_sl rfl (by decide) rfl rfl sl25 rfl rfl (by omega) (encVs_get l k hlt) (encV_len _) <| US.load_rp_agg rfl (by decide) rfl rfl rfl ty27 (by exact encV_len _) <| ?_
    refine US.allocN rfl (by decide) rfl rfl z27 rfl rfl rfl rfl fun p7 => US.st_whole rfl rfl rfl ty27 rfl (k := 0) rfl (by rfl) rfl rfl (by exact encV_cell _) (by exact encV_len _) rfl <| ?_
    refine Q.nt <| UW.region <| Q.mv rfl <| Q.mv rfl <| US.ld_whole rfl (by decide) rfl rfl ty27 rfl (k := 0) rfl (by exact encV_len _) <| ?_
    refine US.call_pure rfl (by decide) rfl rfl rfl rfl (fun _ => hc _ (List.getElem_mem hlt) _) <| US.lit_sl rfl (by decide) rfl rfl row25 (by decide) rfl rfl rfl (by (intro cs h; cases List.mem_singleton.1 h; exact ⟨by exact encV_cell _, by exact encV_len _⟩)) <| ?_
    refine US.append_own rfl (by decide) rfl rfl row25 rfl (k := 1) rfl (by rw [List.length_take]; omega) rfl (SrcO.sl (fun cs h => by cases List.mem_singleton.1 h; exact encV_len _)) (by (simp; omega)) (Eq.trans (by rw [List.take_take, Nat.min_self]) (encVs_snoc l k hlt)) fun p19 => ?_
    refine Q.as rfl <| US.nil <| UQ.blockN <| UQ.then <| UW.region <| US.add rfl (by decide) rfl rfl rfl rfl (IntWalk.i64_in _ (by omega)) <| Q.mv rfl <| ?_
    exact US.round (a' := (k + 1, p19)) (by simp only; omega) (by simp only; omega) ⟨rfl, rfl, rfl, rfl, rfl, trivial⟩ (by simp)
  · have h := of_decide_eq_false h
    have hkl : k = l.length := by simp only at h; omega
    refine UW.exit <| UQ.pass <| UQ.pass <| UQ.here <| UQ.then <| Q.rg <| Q.mv rfl <| Q.as rfl <| Q.nt <| UW.ret <| retR [(id, _)] (fun _ => res_tmp rfl rfl) (.refl _) fun hd => ?_
    exact ⟨_, hd, rfl, id, by rw [hll, hkl], by rw [hkl, ← hll, List.take_length]⟩
theorem extH_sub {H : Hp} {news : List (Nat × Ob)} (hd : Dist H news) : Sub H (extH H news) := sub_of_mem (r' := []) hd .nil (by simp)
theorem strs_own {H : Hp} {news : List (Nat × Ob)} (hd : Dist H news) {k i : Nat} {rows : List (List AV)} {e sz : Nat} (h : news[k]? = some (i, .row e sz rows)) : Turns (extH H news) (.own i 0 rows.length sz) H (.sl rows) := by
  have h1 := Turns.own (off := 0) (len := rows.length) (rows' := rows) (extH_sub hd) (hd.at_ h) (hd.base h) (by omega) rfl (fun i cs cs' h1 h2 => by
    rw [h1] at h2; cases h2
    exact ⟨rfl, fun j u u' h3 h4 => by rw [h3] at h4; cases h4; exact Turns.drop (extH_sub hd) u⟩)
  simpa using h1
theorem turns_five {H H' : Hp} {a b c d e d' e' : AV} (hs : Sub H' H) (h1 : Turns H d H' d') (h2 : Turns H e H' e') : Turns H (.agg [a, b, c, d, e]) H' (.agg [a, b, c, d', e']) := by
  refine Turns.agg rfl fun j u u' h3 h4 => ?_
  match j with
  | 0 => simp at h3 h4; subst h3 h4; exact Turns.drop hs _
  | 1 => simp at h3 h4; subst h3 h4; exact Turns.drop hs _
  | 2 => simp at h3 h4; subst h3 h4; exact Turns.drop hs _
  | 3 => simp at h3 h4; subst h3 h4; exact h1
  | 4 => simp at h3 h4; subst h3 h4; exact h2
  | j + 5 => simp at h3
theorem copyR_pure {P : Program} {f : Nat} {us : List AV} {H : Hp} {x : V} (h : ACall P f us H (CopyR H x)) : ACall P f us H (IsR H (.agg (encV x))) := by
  refine h.post <| ?_
  rintro u H1 ⟨news, hd, rfl, i, j, rfl, rfl⟩
  refine ⟨.agg (encV x), H, extH_sub hd, ?_, rfl, rfl⟩
  obtain ⟨k, n, t, ks, vs⟩ := x
  simp only [encV, V.k, V.n, V.t, V.ks, V.vs] at hd ⊢
  refine turns_five (extH_sub hd) ?_ ?_
  · have := strs_own hd (k := 1) rfl
    rwa [List.length_map] at this
  · have := strs_own hd (k := 0) rfl
    rwa [encVs_len] at this
theorem copy_spec (x : V) (hx : Fits x) : ∀ H, ACall Try.prog 25 [.agg (encV x)] H (CopyR H x) := by
  induction hx with
  | mk k n t ks vs h1 h2 h ih =>
  intro H
  refine UCall (n := 12) (H0 := H) (objs := []) Try.func25 (by kernel_rfl) rfl (by rw [Try.ntmps25]; rfl) .nil <| ?_
  refine Q.rg <| US.box rfl (by decide) rfl rfl rfl rfl (by rfl) fun p1 => ?_
  refine US.allocN rfl (by decide) rfl rfl z27 rfl rfl rfl rfl fun p2 => Q.nt <| Q.rg <| US.fieldAddr rfl (by decide) rfl rfl rfl f27_3 <| Q.lc 1 ty24 rfl rfl rfl <| ?_
  refine US.call_new rfl (by decide) rfl rfl rfl rfl (fun hd => clone_spec ks (by omega) _) ?_; rintro _ _ ⟨p5, rfl, rfl⟩; simp only [List.cons_append, List.nil_append]
  refine US.fieldAddr rfl (by decide) rfl rfl rfl f27_3 <| US.st_box rfl rfl rfl ty24 rfl (k := 2) rfl rfl rfl (by rfl) (by rfl) rfl rfl <| ?_
  refine Q.nt <| Q.rg <| US.fieldAddr rfl (by decide) rfl rfl rfl f27_4 <| Q.lc 2 ty25 rfl rfl rfl <| ?_
  refine US.call_new rfl (by decide) rfl rfl rfl rfl (fun hd => eachCopy_spec vs h2 (fun x hx H => copyR_pure (ih x hx H)) _) ?_; rintro _ _ ⟨p9, rfl, rfl⟩; simp only [List.cons_append, List.nil_append]
  refine US.fieldAddr rfl (by decide) rfl rfl rfl f27_4 <| US.st_box rfl rfl rfl ty25 rfl (k := 3) rfl rfl rfl (by rfl) (by rfl) rfl rfl <| ?_
  refine Q.nt <| Q.rg <| US.ld_whole rfl (by decide) rfl rfl ty27 rfl (k := 3) rfl (by rfl) <| ?_
  refine US.st_whole rfl rfl rfl ty27 rfl (k := 2) rfl (by rfl) rfl rfl (by rfl) (by rfl) rfl <| ?_
  refine Q.nt <| UW.ret <| ?_
  simp only [List.set_cons_succ, List.set_cons_zero]
  refine retR [(p9, _), (p5, _)] (fun hd => res_cell (k := 2) hd rfl rfl rfl st27 sz27) (.cons_cons _ (.cons_cons _ (List.nil_sublist _))) fun hd => ?_
  exact ⟨_, hd, rfl, p5, p9, by simp only [V.k, V.n, V.t, V.ks, V.vs, List.length_map, encVs_len], rfl⟩
end Go.Proofs.Ytopaddebalfoeaa
