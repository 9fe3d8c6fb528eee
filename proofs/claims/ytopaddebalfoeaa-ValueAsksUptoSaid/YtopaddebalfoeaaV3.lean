/- Reading, cutting out. -/
import Derived.Test.YtopaddebalfoeaaV2
namespace Go.Proofs.Ytopaddebalfoeaa
open Go Go.RowKit Go.Eng
set_option linter.unusedSimpArgs false
set_option linter.unusedVariables false
/-- Without the element at i. -/
def cutAt {α : Type} (l : List α) (i : Nat) : List α := l.take i ++ l.drop (i + 1)
theorem cutAt_len {α : Type} {l : List α} {i : Nat} (h : i < l.length) : (cutAt l i).length = l.length - 1 := by unfold cutAt; simp; omega
theorem clear_tail {α : Type} (l : List α) (i : Nat) (z : α) (h : i < l.length) (m : Nat) (hm : m = l.length - 1) (A : List α) (hA : A = cutAt l i ++ l.drop m) (q : Nat) (hq : q = l.length - m) (q2 : Nat) (hq2 : q2 = m + q) :
    A.take m ++ List.replicate q z ++ A.drop q2 = cutAt l i ++ [z] := by
  subst hA hm hq hq2
  have e2 : l.length - (l.length - 1) = 1 := by omega
  have e3 := cutAt_len h
  rw [e2, List.take_append_of_le_length (by omega), List.take_of_length_le (by omega), List.drop_of_length_le (by rw [List.length_append, e3, List.length_drop]; omega), List.append_nil]
  rfl
theorem deleteS_spec (rows : List (List AV)) (len : Nat) (hlen0 : len = rows.length) (hr : ∀ cs ∈ rows, cs.length = 1) (i : Nat) (hi : i < rows.length) (hb : rows.length ≤ 1000000) (id : Nat) (H : Hp) (hH : H id = none) :
    ACall Try.prog 54 [.own id 0 len 1, .v (.int .i64 (i : Int)), .v (.int .i64 ((i + 1 : Nat) : Int))] (extH H [(id, .row 9 1 rows)])
      (fun u H' => u = .own id 0 (len - 1) 1 ∧ H' = extH H [(id, .row 9 1 (cutAt rows i ++ [[.v (.string ⟨#[]⟩)]]))]) := by
  subst hlen0
  refine UCall (n := 33) (H0 := H) (objs := [(id, .row 9 1 rows)]) Try.func54 (by kernel_rfl) rfl (by rw [Try.ntmps54]; rfl) (.cons hH .nil) <| ?_
  refine Q.rg <| Q.as rfl <| Q.nt <| Q.rg <| Q.mv rfl <| Q.mv rfl <| Q.mv rfl <| Q.mv rfl <| US.len_own rfl (by decide) rfl rfl sl24 rfl <| US.qs rfl (by decide) (QS.slice3_own rfl rfl sl24 rfl rfl rfl rfl (by omega) (by omega) (by omega)) <| Q.nt <| UW.seq <| Q.rg <| ?_
  have hne : ¬ ((i : Int) = (i : Int) + 1) := by omega
  refine Q.mv rfl <| Q.mv rfl <| US.bin_int rfl (by decide) rfl rfl rfl rfl (r := .bool false) (by (simp [iop, sop, hne]; done)) <| ?_
  refine Q.nt <| UW.cond rfl (fun h => absurd h (by simp)) fun _ => ?_
  refine UW.skip <| UQ.then <| Q.rg <| Q.mv rfl <| US.len_own rfl (by decide) rfl rfl sl24 rfl <| Q.as rfl <| Q.nt <| UW.seq <| ?_
  refine' UW.draw' (by kernel_rfl) [0, 0, 3, 0, 0, 24, 63, 127] [some 20, some 21, some 22, some 23, some 24, some 25, none, none] [some (20, _), some (21, _), some (22, _), some (23, _), some (24, _), some (25, _), none, none] [6, 7] [] rfl (by decide) (by decide) (QAll.free (by decide) rfl rfl ?q0 (QAll.free (by decide) rfl rfl ?q1 (QAll.free (by decide) rfl rfl ?q2 (QAll.free (by decide) rfl rfl ?q3 (QAll.free (by decide) rfl rfl ?q4 (QAll.free (by decide) rfl rfl ?q5 (QAll.skip (QAll.skip QAll.nil)))))))) ?k
  case q0 => exact QF.move rfl rfl rfl
  case q1 => exact QF.move rfl rfl rfl
  case q2 => exact QF.slice_own rfl rfl sl24 rfl (.hi rfl) (by omega) (by omega)
  case q3 => exact QF.move rfl rfl rfl
  case q4 => exact QF.move rfl rfl rfl
  case q5 => exact QF.slice_own rfl rfl sl24 rfl (.lo rfl) (by omega) (by omega)
  refine CH.cons rfl rfl (by decide) <| DS.append_in rfl rfl row24 rfl rfl (k := 0) rfl (.own (k := 0) rfl (by omega) rfl) (by rw [List.length_take, List.length_drop]; omega) rfl rfl <| ?_
  refine CH.cons rfl rfl (by decide) <| DS.qs (by exact QS.assign rfl rfl rfl) <| ?_
  refine CH.nil <| ?_
  simp only [app, finL]
  have e0 : i - 0 + (List.take (rows.length - (i + 1)) (List.drop (0 + (i + 1)) rows)).length = rows.length - 1 := by rw [List.length_take, List.length_drop]; omega
  have e1 : List.take (i - 0) rows ++ List.take (rows.length - (i + 1)) (List.drop (0 + (i + 1)) rows) = cutAt rows i := by
    rw [Nat.zero_add, List.take_of_length_le (l := List.drop (i + 1) rows) (by rw [List.length_drop]; omega)]; rfl
  have hcl := cutAt_len hi
  have hlen : (cutAt rows i ++ List.drop (rows.length - 1) rows).length = rows.length := by rw [List.length_append, hcl, List.length_drop]; omega
  rw [e0, e1]
  refine UQ.then <| Q.rg <| Q.mv rfl <| Q.mv rfl <| US.len_own rfl (by decide) rfl rfl sl24 rfl <| Q.mv rfl <| US.slice_ext rfl (by decide) rfl rfl sl24 rfl (k := 0) rfl rfl rfl (by omega) (by rw [hlen]; omega) <| ?_
  refine US.clear rfl rfl rfl row24 rfl (k := 0) rfl (by rw [hlen]; omega) z9 rfl (clear_tail rows i _ hi (rows.length - 1) rfl _ rfl _ rfl _ rfl) rfl <| ?_
  refine Q.nt <| Q.rg <| Q.mv rfl <| Q.as rfl <| Q.nt <| UW.ret <| ?_
  exact retR [_] (fun _ => res_tmp rfl rfl) (List.Sublist.refl _) fun hd => ⟨rfl, rfl⟩
theorem deleteV_spec (rows : List (List AV)) (len : Nat) (hlen0 : len = rows.length) (hr : ∀ cs ∈ rows, cs.length = 5) (i : Nat) (hi : i < rows.length) (hb : rows.length ≤ 1000000) (id : Nat) (H : Hp) (hH : H id = none) :
    ACall Try.prog 55 [.own id 0 len 5, .v (.int .i64 (i : Int)), .v (.int .i64 ((i + 1 : Nat) : Int))] (extH H [(id, .row 27 5 rows)])
      (fun u H' => u = .own id 0 (len - 1) 5 ∧ H' = extH H [(id, .row 27 5 (cutAt rows i ++ [[.v (.int .i64 0), .v (.int .i64 0), .v (.string ⟨#[]⟩), .v (.slice none 0 0), .v (.slice none 0 0)]]))]) := by
  subst hlen0
  refine UCall (n := 33) (H0 := H) (objs := [(id, .row 27 5 rows)]) Try.func55 (by kernel_rfl) rfl (by rw [Try.ntmps55]; rfl) (.cons hH .nil) <| ?_
  refine Q.rg <| Q.as rfl <| Q.nt <| Q.rg <| Q.mv rfl <| Q.mv rfl <| Q.mv rfl <| Q.mv rfl <| US.len_own rfl (by decide) rfl rfl sl25 rfl <| US.qs rfl (by decide) (QS.slice3_own rfl rfl sl25 rfl rfl rfl rfl (by omega) (by omega) (by omega)) <| Q.nt <| UW.seq <| Q.rg <| ?_
  have hne : ¬ ((i : Int) = (i : Int) + 1) := by omega
  refine Q.mv rfl <| Q.mv rfl <| US.bin_int rfl (by decide) rfl rfl rfl rfl (r := .bool false) (by (simp [iop, sop, hne]; done)) <| ?_
  refine Q.nt <| UW.cond rfl (fun h => absurd h (by simp)) fun _ => ?_
  refine UW.skip <| UQ.then <| Q.rg <| Q.mv rfl <| US.len_own rfl (by decide) rfl rfl sl25 rfl <| Q.as rfl <| Q.nt <| UW.seq <| ?_
  refine' UW.draw' (by kernel_rfl) [0, 0, 3, 0, 0, 24, 63, 127] [some 20, some 21, some 22, some 23, some 24, some 25, none, none] [some (20, _), some (21, _), some (22, _), some (23, _), some (24, _), some (25, _), none, none] [6, 7] [] rfl (by decide) (by decide) (QAll.free (by decide) rfl rfl ?q0 (QAll.free (by decide) rfl rfl ?q1 (QAll.free (by decide) rfl rfl ?q2 (QAll.free (by decide) rfl rfl ?q3 (QAll.free (by decide) rfl rfl ?q4 (QAll.free (by decide) rfl rfl ?q5 (QAll.skip (QAll.skip QAll.nil)))))))) ?k
  case q0 => exact QF.move rfl rfl rfl
  case q1 => exact QF.move rfl rfl rfl
  case q2 => exact QF.slice_own rfl rfl sl25 rfl (.hi rfl) (by omega) (by omega)
  case q3 => exact QF.move rfl rfl rfl
  case q4 => exact QF.move rfl rfl rfl
  case q5 => exact QF.slice_own rfl rfl sl25 rfl (.lo rfl) (by omega) (by omega)
  refine CH.cons rfl rfl (by decide) <| DS.append_in rfl rfl row25 rfl rfl (k := 0) rfl (.own (k := 0) rfl (by omega) rfl) (by rw [List.length_take, List.length_drop]; omega) rfl rfl <| ?_
  refine CH.cons rfl rfl (by decide) <| DS.qs (by exact QS.assign rfl rfl rfl) <| ?_
  refine CH.nil <| ?_
  simp only [app, finL]
  have e0 : i - 0 + (List.take (rows.length - (i + 1)) (List.drop (0 + (i + 1)) rows)).length = rows.length - 1 := by rw [List.length_take, List.length_drop]; omega
  have e1 : List.take (i - 0) rows ++ List.take (rows.length - (i + 1)) (List.drop (0 + (i + 1)) rows) = cutAt rows i := by
    rw [Nat.zero_add, List.take_of_length_le (l := List.drop (i + 1) rows) (by rw [List.length_drop]; omega)]; rfl
  have hcl := cutAt_len hi
  have hlen : (cutAt rows i ++ List.drop (rows.length - 1) rows).length = rows.length := by rw [List.length_append, hcl, List.length_drop]; omega
  rw [e0, e1]
  refine UQ.then <| Q.rg <| Q.mv rfl <| Q.mv rfl <| US.len_own rfl (by decide) rfl rfl sl25 rfl <| Q.mv rfl <| US.slice_ext rfl (by decide) rfl rfl sl25 rfl (k := 0) rfl rfl rfl (by omega) (by rw [hlen]; omega) <| ?_
  refine US.clear rfl rfl rfl row25 rfl (k := 0) rfl (by rw [hlen]; omega) z27 rfl (clear_tail rows i _ hi (rows.length - 1) rfl _ rfl _ rfl _ rfl) rfl <| ?_
  refine Q.nt <| Q.rg <| Q.mv rfl <| Q.as rfl <| Q.nt <| UW.ret <| ?_
  exact retR [_] (fun _ => res_tmp rfl rfl) (List.Sublist.refl _) fun hd => ⟨rfl, rfl⟩
/-- Reading: the value under a key. -/
def zeroV : V := .mk 0 0 ⟨#[]⟩ [] []
def getV (x : V) (key : ByteArray) : V × Bool := match pl x key with
  | some i => (x.vs.getD i zeroV, true)
  | none => (zeroV, false)
theorem getD_at {α : Type} {l : List α} {i : Nat} {z : α} (h : i < l.length) : l.getD i z = l[i] := by simp [List.getD, h]
theorem getD_mem {α : Type} {l : List α} {i : Nat} {z : α} (h : i < l.length) : l.getD i z ∈ l := by rw [getD_at h]; exact List.getElem_mem h
theorem encVs_at (l : List V) (i : Nat) (h : i < l.length) : (encVs l)[((i : Nat) : Int).toNat]? = some (encV (l.getD i zeroV)) := by
  rw [Int.toNat_natCast, encVs_get l i h, getD_at h]
theorem get_spec (x : V) (hx : Fits x) (s : ByteArray) (H : Hp) :
    ACall Try.prog 23 [.agg (encV x), .v (.string s)] H (IsR H (.tup [.agg (encV (getV x s).1), .v (.bool (getV x s).2)])) := by
  obtain ⟨k, n, t, ks, vs⟩ := x
  refine UCall (n := 19) (H0 := H) (objs := []) Try.func23 (by kernel_rfl) rfl (by rw [Try.ntmps23]; rfl) .nil <| ?_
  refine Q.rg <| US.box rfl (by decide) rfl rfl rfl rfl (by rfl) fun p2 => ?_
  refine US.allocN rfl (by decide) rfl rfl z27 rfl rfl rfl rfl fun p4 => Q.as rfl <| Q.nt <| Q.rg <| US.ld_whole rfl (by decide) rfl rfl ty27 rfl (k := 1) rfl (by rfl) <| ?_
  refine Q.mv rfl <| US.call_pure rfl (by decide) rfl rfl rfl rfl (fun _ => place_spec _ s hx _) <| Q.as rfl <| Q.nt <| UW.seq <| Q.rg <| ?_
  cases hp : pl (.mk k n t ks vs) s with
  | none =>
    have hg : getV (.mk k n t ks vs) s = (zeroV, false) := by unfold getV; rw [hp]
    rw [hg]
    refine Q.mv rfl <| Q.bi rfl rfl rfl <| Q.nt <| ?_
    refine UW.cond rfl (fun _ => ?_) (fun h => absurd h (by simp [oi]))
    refine Q.rg <| US.buildN [] rfl (by decide) rfl rfl bt27 rfl rfl rfl rfl rfl rfl rfl rfl <| US.st_whole rfl rfl rfl ty27 rfl (k := 0) rfl (by rfl) rfl rfl (by rfl) (by rfl) rfl <| ?_
    refine Q.as rfl <| Q.nt <| UW.ret <| UQ.passR <| ?_
    exact retR [] (fun hd => res_two rfl (res1_cell (k := 0) hd rfl rfl st27 sz27) (res1_tmp rfl)) (by simp) fun hd => ⟨rfl, rfl⟩
  | some i =>
    obtain ⟨hlt, _, _⟩ := pl_lt hp
    simp only [V.vs] at hlt
    have hg : getV (.mk k n t ks vs) s = (vs.getD i zeroV, true) := by unfold getV; rw [hp]; rfl
    rw [hg]
    refine Q.mv rfl <| Q.bi rfl rfl rfl <| Q.nt <| UW.cond rfl (fun h => absurd (of_decide_eq_true h) (by simp only [oi]; omega)) fun _ => ?_
    refine UW.skip <| UQ.then <| Q.rg <| US.fieldAddr rfl (by decide) rfl rfl rfl f27_4 <| Q.lc 1 ty25 rfl rfl rfl <| Q.mv rfl <| US.indexAddr_sl rfl (by decide) rfl rfl sl25 rfl rfl (by simp [oi]) (encVs_at _ i hlt) (encV_len _) <| ?_
    refine US.load_rp_agg rfl (by decide) rfl rfl rfl ty27 (by exact encV_len _) <| ?_
    refine US.call_pure rfl (by decide) rfl rfl rfl rfl (fun _ => copyR_pure (copy_spec _ (hx.vs _ (getD_mem hlt)) _)) <| US.st_whole rfl rfl rfl ty27 rfl (k := 0) rfl (by rfl) rfl rfl (by exact encV_cell _) (by exact encV_len _) rfl <| ?_
    refine Q.as rfl <| Q.nt <| UW.ret <| ?_
    exact retR [] (fun hd => res_two rfl (res1_cell (k := 0) hd rfl rfl st27 (by rw [encV_len]; exact sz27)) (res1_tmp rfl)) (by simp) fun hd => ⟨rfl, rfl⟩
/-- A value without a key. -/
def withoutV (x : V) (key : ByteArray) : V := match pl x key with
  | some i => .mk x.k x.n x.t (cutAt (cutV x).ks i) (cutAt (cutV x).vs i)
  | none => x
/-- A value whose lists lie in rows of their own, which may be longer. -/
def OwnV (H : Hp) (x : V) (u : AV) (H' : Hp) : Prop := ∃ news, Dist H news ∧ H' = extH H news ∧ ∃ i j rk rv, u = .agg [.v (.int .i64 x.k), .v (.int .i64 x.n), .v (.string x.t), .own i 0 x.ks.length 1, .own j 0 x.vs.length 5] ∧ news = [(j, .row 27 5 rv), (i, .row 9 1 rk)] ∧
  x.ks.length ≤ rk.length ∧ rk.take x.ks.length = x.ks.map encS ∧ x.vs.length ≤ rv.length ∧ rv.take x.vs.length = encVs x.vs
theorem own_sl {H : Hp} {news : List (Nat × Ob)} (hd : Dist H news) {k i len : Nat} {rows rs : List (List AV)} {e sz : Nat} (h : news[k]? = some (i, .row e sz rows)) (hl : len ≤ rows.length) (hr : rows.take len = rs) : Turns (extH H news) (.own i 0 len sz) H (.sl rs) := by
  have h1 := Turns.own (off := 0) (len := len) (rows' := rows) (extH_sub hd) (hd.at_ h) (hd.base h) (by omega) rfl (fun i cs cs' h1 h2 => by
    rw [h1] at h2; cases h2
    exact ⟨rfl, fun j u u' h3 h4 => by rw [h3] at h4; cases h4; exact Turns.drop (extH_sub hd) u⟩)
  rw [← hr]
  simpa using h1
theorem ownV_pure {P : Program} {f : Nat} {us : List AV} {H : Hp} {x : V} (h : ACall P f us H (OwnV H x)) : ACall P f us H (IsR H (.agg (encV x))) := by
  refine h.post <| ?_
  rintro u H1 ⟨news, hd, rfl, i, j, rk, rv, rfl, rfl, h1, h2, h3, h4⟩
  refine ⟨.agg (encV x), H, extH_sub hd, ?_, rfl, rfl⟩
  obtain ⟨k, n, t, ks, vs⟩ := x
  simp only [encV, V.k, V.n, V.t, V.ks, V.vs] at hd h1 h2 h3 h4 ⊢
  exact turns_five (extH_sub hd) (own_sl hd (k := 1) rfl h1 h2) (own_sl hd (k := 0) rfl h3 h4)
theorem cutAt_map {α β : Type} (f : α → β) (l : List α) (i : Nat) : (cutAt l i).map f = cutAt (l.map f) i := by unfold cutAt; rw [List.map_append, List.map_take, List.map_drop]
theorem without_spec (x : V) (hx : Fits x) (s : ByteArray) (H : Hp) :
    ACall Try.prog 24 [.agg (encV x), .v (.string s)] H (IsR H (.agg (encV (withoutV x s)))) := by
  obtain ⟨k, n, t, ks, vs⟩ := x
  cases hp : pl (.mk k n t ks vs) s with
  | none =>
    have hg : withoutV (.mk k n t ks vs) s = .mk k n t ks vs := by unfold withoutV; rw [hp]
    rw [hg]
    refine UCall (n := 30) (H0 := H) (objs := []) Try.func24 (by kernel_rfl) rfl (by rw [Try.ntmps24]; rfl) .nil <| ?_
    refine Q.rg <| US.box rfl (by decide) rfl rfl rfl rfl (by rfl) fun p2 => ?_
    refine US.allocN rfl (by decide) rfl rfl z27 rfl rfl rfl rfl fun p4 => Q.nt <| Q.rg <| US.ld_whole rfl (by decide) rfl rfl ty27 rfl (k := 1) rfl (by rfl) <| ?_
    refine Q.mv rfl <| US.call_pure rfl (by decide) rfl rfl rfl rfl (fun _ => place_spec _ s hx _) <| Q.as rfl <| Q.nt <| UW.seq <| Q.rg <| Q.mv rfl <| Q.bi rfl rfl rfl <| Q.nt <| ?_
    rw [hp]
    refine UW.cond rfl (fun _ => ?_) (fun h => absurd h (by simp [oi]))
    refine Q.rg <| US.ld_whole rfl (by decide) rfl rfl ty27 rfl (k := 1) rfl (by rfl) <| ?_
    refine US.call_pure rfl (by decide) rfl rfl rfl rfl (fun _ => copyR_pure (copy_spec _ hx _)) <| US.st_whole rfl rfl rfl ty27 rfl (k := 0) rfl (by rfl) rfl rfl (by rfl) (by rfl) rfl <| ?_
    refine Q.nt <| UW.ret <| UQ.passR <| ?_
    exact retR [] (fun hd => res_cell (k := 0) hd rfl rfl rfl st27 sz27) (by simp) fun hd => ⟨rfl, rfl⟩
  | some i =>
    obtain ⟨hlt, hlk, _⟩ := pl_lt hp
    simp only [V.vs] at hlt
    simp only [V.ks] at hlk
    have hg : withoutV (.mk k n t ks vs) s = .mk k n t (cutAt (cutV (.mk k n t ks vs)).ks i) (cutAt (cutV (.mk k n t ks vs)).vs i) := by unfold withoutV; rw [hp]; rfl
    rw [hg]
    have hcf : Fits (cutV (.mk k n t ks vs)) := hx.cut
    have hck : i < (cutV (.mk k n t ks vs)).ks.length := by simp only [cutV, V.ks, V.vs, List.length_take]; omega
    have hcv : i < (cutV (.mk k n t ks vs)).vs.length := by simp only [cutV, V.ks, V.vs, List.length_take]; omega
    have hbv := hcf.vsl
    refine ownV_pure <| UCall (n := 30) (H0 := H) (objs := []) Try.func24 (by kernel_rfl) rfl (by rw [Try.ntmps24]; rfl) .nil <| ?_
    refine Q.rg <| US.box rfl (by decide) rfl rfl rfl rfl (by rfl) fun p2 => ?_
    refine US.allocN rfl (by decide) rfl rfl z27 rfl rfl rfl rfl fun p4 => Q.nt <| Q.rg <| US.ld_whole rfl (by decide) rfl rfl ty27 rfl (k := 1) rfl (by rfl) <| ?_
    refine Q.mv rfl <| US.call_pure rfl (by decide) rfl rfl rfl rfl (fun _ => place_spec _ s hx _) <| Q.as rfl <| Q.nt <| UW.seq <| Q.rg <| Q.mv rfl <| Q.bi rfl rfl rfl <| Q.nt <| ?_
    rw [hp]
    simp only [oi]
    refine UW.cond rfl (fun h => absurd (of_decide_eq_true h) (by omega)) fun _ => UW.skip <| UQ.then <| Q.rg <| US.ld_whole rfl (by decide) rfl rfl ty27 rfl (k := 1) rfl (by rfl) <| ?_
    refine US.call_new rfl (by decide) rfl rfl rfl rfl (fun _ => cut_spec _ hx _) ?_; rintro _ _ ⟨pi, pj, rfl, rfl⟩
    refine US.st_whole rfl rfl rfl ty27 rfl (k := 3) rfl (by rfl) rfl rfl (by rfl) (by rfl) rfl <| ?_
    refine Q.nt <| Q.rg <| US.fieldAddr rfl (by decide) rfl rfl rfl f27_3 <| Q.lc 3 ty24 rfl rfl rfl <| Q.mv rfl <| Q.mv rfl <| US.add rfl (by decide) rfl rfl rfl rfl (r := ((i + 1 : Nat) : Int)) (IntWalk.i64_in _ (by omega)) <| US.call_own 1 rfl (by decide) rfl rfl rfl rfl rfl (fun G hG => deleteS_spec _ _ (List.length_map ..).symm (strs_sz _) i (by rw [List.length_map]; exact hck) (by rw [List.length_map]; exact hcf.ksl) pi G hG) rfl <| ?_
    refine US.fieldAddr rfl (by decide) rfl rfl rfl f27_3 <| US.st_box rfl rfl rfl ty24 rfl (k := 3) rfl rfl rfl (by rfl) (by rfl) rfl rfl <| ?_
    refine Q.nt <| Q.rg <| US.fieldAddr rfl (by decide) rfl rfl rfl f27_4 <| Q.lc 3 ty25 rfl rfl rfl <| Q.mv rfl <| Q.mv rfl <| US.add rfl (by decide) rfl rfl rfl rfl (r := ((i + 1 : Nat) : Int)) (IntWalk.i64_in _ (by omega)) <| US.call_own 0 rfl (by decide) rfl rfl rfl rfl rfl (fun G hG => deleteV_spec _ _ (encVs_len _).symm (encVs_sz _) i (by rw [encVs_len]; exact hcv) (by rw [encVs_len]; exact hcf.vsl) pj G hG) rfl <| ?_
    refine US.fieldAddr rfl (by decide) rfl rfl rfl f27_4 <| US.st_box rfl rfl rfl ty25 rfl (k := 3) rfl rfl rfl (by rfl) (by rfl) rfl rfl <| ?_
    refine Q.nt <| Q.rg <| US.ld_whole rfl (by decide) rfl rfl ty27 rfl (k := 3) rfl (by rfl) <| ?_
    refine US.st_whole rfl rfl rfl ty27 rfl (k := 2) rfl (by rfl) rfl rfl (by rfl) (by rfl) rfl <| ?_
    refine Q.nt <| UW.ret <| ?_
    simp only [List.set_cons_succ, List.set_cons_zero, List.cons_append, List.nil_append]
    refine retR [_, _] (fun hd => res_cell (k := 2) hd rfl rfl rfl st27 sz27) (.cons_cons _ (.cons_cons _ (List.nil_sublist _))) fun hd => ?_
    have e1 := cutAt_len hck
    have e2 := cutAt_len hcv
    have e3 : (cutAt ((cutV (.mk k n t ks vs)).ks.map encS) i).length = (cutV (.mk k n t ks vs)).ks.length - 1 := by rw [← cutAt_map, List.length_map, e1]
    have e4 : (cutAt (encVs (cutV (.mk k n t ks vs)).vs) i).length = (cutV (.mk k n t ks vs)).vs.length - 1 := by rw [encVs_eq, ← cutAt_map, List.length_map, e2]
    refine ⟨_, hd, rfl, pi, pj, _, _, ?_, rfl, ?_, ?_, ?_, ?_⟩
    · show _ = AV.agg [_, _, _, .own pi 0 (cutAt (cutV (.mk k n t ks vs)).ks i).length 1, .own pj 0 (cutAt (cutV (.mk k n t ks vs)).vs i).length 5]
      rw [e1, e2]; rfl
    · show (cutAt (cutV (.mk k n t ks vs)).ks i).length ≤ _
      rw [List.length_append, e3, e1]; omega
    · show List.take (cutAt (cutV (.mk k n t ks vs)).ks i).length _ = (cutAt (cutV (.mk k n t ks vs)).ks i).map encS
      rw [e1, ← e3, List.take_left, cutAt_map]
    · show (cutAt (cutV (.mk k n t ks vs)).vs i).length ≤ _
      rw [List.length_append, e4, e2]; omega
    · show List.take (cutAt (cutV (.mk k n t ks vs)).vs i).length _ = encVs (cutAt (cutV (.mk k n t ks vs)).vs i)
      rw [e2, ← e4, List.take_left, encVs_eq, encVs_eq, cutAt_map]
end Go.Proofs.Ytopaddebalfoeaa
