/- The engine, twelfth part: a walk over a string's runes, parts of a tuple, a comparison without a body. -/
import Derived.Test.YtopaddebalfoeaaEa
import Derived.Laws.RangeAny
import Derived.Lib.Bytealg
set_option linter.unusedVariables false
set_option linter.unusedSimpArgs false
namespace Go.Eng
open Go Go.RowKit
section
variable {P : Program} {n : Nat} {T : Sl} {H : Hp} {ops : Array Oper} {o : Oper} {K : AV → Hp → Prop}
theorem Does.range_str {t : Nat} {x : Operand} {s : ByteArray} (hg : o.guard = none) (ho : o.op = .range t x) (ht : P.underlying t = some .string) (hx : ev T x = .v (.string s))
    (hk : ∀ id, H id = none → K (.ptr id 0) (set H id (some (.iter s 0)))) : Does P n ops o T H K := by
  refine Does.newOb hg fun a w ρ h hr => ?_
  have h3 := hr x
  rw [hx] at h3
  have h4 := rep_v h3
  refine ⟨.pointer (some ⟨w.heap.size, 0, none⟩), .pointer (some ⟨w.heap.size, 0, none⟩), w.iter s 0, .iter s 0, ?_, below_alloc _ _, ?_, fun ρ' H' e => ⟨_, rfl, World.iter_heap w s 0⟩, ?_⟩
  · unfold execOp
    rw [ho]
    simp only [h4, Sem.run_bind, run_range_string (P := P) w t s ht, Result.andThen_ok, Sem.run_pure]
  · intro k hk; cases hk; rw [World.iter, size_alloc]; simp
  · intro id hid
    exact ⟨.ptr id 0, fun ok' ρ' h => .ptr id 0 _ _ h (.inl rfl), hk id hid⟩
theorem run_next_at (w : World) (g : Nat) (s : ByteArray) (pos : Nat) (ty : TypeId) (hg : w.heap[g]? = some (.stringIter s pos)) (h : pos < s.size) :
    (Instr.next (.pointer (some ⟨g, 0, none⟩)) true ty).run P w = .ok (.tuple #[.bool true, .int .i64 pos, .int .i32 (Utf8.decode s pos).1]) { w with heap := w.heap.setIfInBounds g (.stringIter s (pos + (Utf8.decode s pos).2)) } := by
  simp only [Instr.next, getObj, setObj, Sem.run_bind, Sem.run, hg, Result.andThen, h, if_true]
  simp [goInt]
theorem run_next_over (w : World) (g : Nat) (s : ByteArray) (pos : Nat) (ty : TypeId) (hg : w.heap[g]? = some (.stringIter s pos)) (h : ¬ pos < s.size) :
    (Instr.next (.pointer (some ⟨g, 0, none⟩)) true ty).run P w = .ok (.tuple #[.bool false]) w := by
  simp [Instr.next, getObj, Sem.run, hg, h]
theorem iter_at {ρ : Rho} {w : World} {id pos : Nat} {s : ByteArray} {x : Value} (h : HRel ρ H w) (h2 : H id = some (.iter s pos)) (hr : Rep (okOf ρ H) ρ w (.ptr id 0) x) :
    ∃ g, x = .pointer (some ⟨g, 0, none⟩) ∧ ρ id = some x ∧ w.heap[g]? = some (.stringIter s pos) := by
  obtain ⟨v, hv, g, rfl, hg⟩ := h.ob id _ h2
  cases hr with
  | ptr _ _ g' x' hx hx' =>
    rw [hv] at hx
    cases hx
    rcases hx' with h3 | ⟨_, _, h3⟩
    · cases h3; exact ⟨g, rfl, hv, hg⟩
    · cases h3
theorem Does.next_str {x : Operand} {id pos : Nat} {s : ByteArray} (hg : o.guard = none) (ho : o.op = .next x true) (hx : ev T x = .ptr id 0) (h2 : H id = some (.iter s pos)) (hlt : pos < s.size)
    (hk : K (.tup [.v (.bool true), .v (.int .i64 pos), .v (.int .i32 (Utf8.decode s pos).1)]) (set H id (some (.iter s (pos + (Utf8.decode s pos).2))))) : Does P n ops o T H K := by
  intro a w ρ h1 hd h3 h4 N Q hN
  rw [if_pos (by simp [Region.wanted, hg])]
  have hr := ev_rep h4
  have h5 := hr x
  rw [hx] at h5
  obtain ⟨g, hxx, hρ, hgg⟩ := iter_at h3 h2 h5
  have hrun : (execOp a.eval o).run P w = .ok (.value (.tuple #[.bool true, .int .i64 pos, .int .i32 (Utf8.decode s pos).1])) { w with heap := w.heap.setIfInBounds g (.stringIter s (pos + (Utf8.decode s pos).2)) } := by
    unfold execOp
    rw [ho]
    simp only [hxx, Sem.run_bind, run_next_at (P := P) w g s pos o.type hgg hlt, Result.andThen_ok, Sem.run_pure]
  unfold Oper.wp
  rw [hrun]
  have hlt' : g < w.heap.size := (Array.getElem?_eq_some_iff.1 hgg).1
  rw [hxx] at hρ
  have := h3.write (w' := { w with heap := w.heap.setIfInBounds g (.stringIter s (pos + (Utf8.decode s pos).2)) }) (.iter s (pos + (Utf8.decode s pos).2)) h2 hρ rfl rfl rfl (by simp) (fun k _ hk => by
    have : g ≠ k := fun e => hk (by rw [e]; rfl)
    simp [Array.getElem?_setIfInBounds, this]) (fun ρ' H' e' _ => ⟨g, rfl, by simp [Array.getElem?_setIfInBounds, hlt']⟩)
  refine hN _ _ ρ _ _ this.1 this.2 ?_ hk
  exact .tup _ [.bool true, .int .i64 pos, .int .i32 (Utf8.decode s pos).1] rfl (fun j u y h6 h7 => by
    match j with
    | 0 => simp at h6 h7; subst h6 h7; exact .v _
    | 1 => simp at h6 h7; subst h6 h7; exact .v _
    | 2 => simp at h6 h7; subst h6 h7; exact .v _
    | j + 3 => simp at h6)
theorem Does.next_over {x : Operand} {id pos : Nat} {s : ByteArray} (hg : o.guard = none) (ho : o.op = .next x true) (hx : ev T x = .ptr id 0) (h2 : H id = some (.iter s pos)) (hlt : ¬ pos < s.size)
    (hk : K (.tup [.v (.bool false)]) H) : Does P n ops o T H K := by
  refine Does.val _ hg (fun a w ρ h hr => ?_) hk
  have h5 := hr x
  rw [hx] at h5
  obtain ⟨g, hxx, hρ, hgg⟩ := iter_at h h2 h5
  refine ⟨.tuple #[.bool false], ?_, .tup _ [.bool false] rfl (fun j u y h6 h7 => ?_)⟩
  · unfold execOp
    rw [ho]
    simp only [hxx, Sem.run_bind, run_next_over (P := P) w g s pos o.type hgg hlt, Result.andThen_ok, Sem.run_pure]
  · match j with
    | 0 => simp at h6 h7; subst h6 h7; exact .v _
    | j + 1 => simp at h6
theorem Does.extract {x : Operand} {us : List AV} {i : Nat} {u : AV} (hg : o.guard = none) (ho : o.op = .extract x i) (hx : ev T x = .tup us) (hu : us[i]? = some u) (hk : K u H) : Does P n ops o T H K := by
  refine Does.val _ hg (fun a w ρ h hr => ?_) hk
  have h5 := hr x
  rw [hx] at h5
  generalize hxx : a.eval x = xx at h5
  cases h5 with
  | tup _ vs hl hr2 =>
    have hlt : i < vs.length := by rw [← hl]; exact (List.getElem?_eq_some_iff.1 hu).1
    refine ⟨vs[i], ?_, hr2 i u _ hu (List.getElem?_eq_getElem hlt)⟩
    unfold execOp
    rw [ho]
    simp only [Sem.run_bind, hxx, Instr.extract]
    simp [hlt]
/-- A function without a body. -/
theorem Does.compare {f : FuncId} {fn : Func} {c x y : Operand} {at_ : Array TypeId} {p q : ByteArray} (hg : o.guard = none) (ho : o.op = .call { callee := .value c, args := #[x, y], argTypes := at_ }) (hc : ev T c = .clo f [])
    (hf : P.funcs[f]? = some fn) (hname : (fn.name == "runtime.NumGoroutine") = false) (hb : fn.body.isNone = true) (hn : Extern.findNext fn = none) (he : Extern.find fn = some Extern.BytealgCompare.compare)
    (hx : ev T x = .v (.string p)) (hy : ev T y = .v (.string q)) (hk : K (.v (.int .i64 (Lib.compareBytes p.data.toList q.data.toList))) H) : Does P n ops o T H K := by
  refine Does.val _ hg (fun a w ρ h hr => ?_) hk
  have h5 := hr c; rw [hc] at h5
  have h6 := hr x; rw [hx] at h6
  have h7 := hr y; rw [hy] at h7
  obtain ⟨vs, hv, hl, hvs⟩ := rep_clo h5
  have hvs0 : vs = [] := List.eq_nil_of_length_eq_zero (by simpa using hl.symm)
  subst hvs0
  refine ⟨_, ?_, .v _⟩
  have h8 := run_callFunc_extern (P := P) hf hname hb hn he #[.string p, .string q] w
  rw [Lib.run_compareString] at h8
  unfold execOp
  rw [ho]
  generalize a.eval = ev' at hv h6 h7 ⊢
  have e6 := rep_v h6
  have e7 := rep_v h7
  simp only [resolve, Deferred.ofValue, hv, invoke, Sem.run_bind, Sem.run_pure, Result.andThen_ok, List.map_toArray, List.map_cons, List.map_nil, e6, e7]
  simpa using h8
end
section
variable {P : Program} {n : Nat} {Q : AEx → Sl → Hp → Prop} {H0 : Hp} {c : Code} {l : List (Nat × AV)} {objs : List (Nat × Ob)} {ops : Array Oper} {rest : List Oper} {o : Oper}
variable {d : Nat} {x y z : Operand} {u : AV} {t e sz b : Nat} {id k : Nat} {K : AV → List (Nat × Ob) → Prop}
theorem US.range_str {s : ByteArray} (hd : o.dst = some d) (hn : d < n) (hg : o.guard = none) (ho : o.op = .range t x) (ht : P.underlying t = some .string) (hx : evO l x = some (.v (.string s)))
    (hk : ∀ id, US P n ops Q H0 rest ((d, .ptr id 0) :: l) ((id, .iter s 0) :: objs)) : US P n ops Q H0 (o :: rest) l objs :=
  US.step hd hn fun hdist => Does.range_str hg ho ht (ev_of hx) fun id hid => ⟨(id, .iter s 0) :: objs, rfl, .cons hid hdist, hk id⟩
theorem US.next_str {s : ByteArray} {pos : Nat} {objs' : List (Nat × Ob)} (hd : o.dst = some d) (hn : d < n) (hg : o.guard = none) (ho : o.op = .next x true) (hx : evO l x = some (.ptr id 0)) (h2 : objs[k]? = some (id, .iter s pos)) (hlt : pos < s.size) (hob : objs.set k (id, .iter s (pos + (Utf8.decode s pos).2)) = objs')
    (hk : US P n ops Q H0 rest ((d, .tup [.v (.bool true), .v (.int .i64 pos), .v (.int .i32 (Utf8.decode s pos).1)]) :: l) objs') : US P n ops Q H0 (o :: rest) l objs := by
  subst hob
  exact US.step hd hn fun hdist => Does.next_str hg ho (ev_of hx) (hdist.at_ h2) hlt ⟨_, (hdist.set_ _ h2).1, (hdist.set_ _ h2).2, hk⟩
theorem US.next_over {s : ByteArray} {pos : Nat} (hd : o.dst = some d) (hn : d < n) (hg : o.guard = none) (ho : o.op = .next x true) (hx : evO l x = some (.ptr id 0)) (h2 : objs[k]? = some (id, .iter s pos)) (hlt : ¬ pos < s.size)
    (hk : US P n ops Q H0 rest ((d, .tup [.v (.bool false)]) :: l) objs) : US P n ops Q H0 (o :: rest) l objs :=
  US.step hd hn fun hdist => Does.next_over hg ho (ev_of hx) (hdist.at_ h2) hlt ⟨objs, rfl, hdist, hk⟩
theorem QS.extract {us : List AV} {i : Nat} (hg : o.guard = none) (ho : o.op = .extract x i) (hx : evO l x = some (.tup us)) (hu : us[i]? = some u) : QS P n ops H0 o l objs u := fun _ => Does.extract hg ho (ev_of hx) hu ⟨rfl, rfl⟩
theorem QF.extract {us : List AV} {i : Nat} (hg : o.guard = none) (ho : o.op = .extract x i) (hx : evO l x = some (.tup us)) (hu : us[i]? = some u) : QF P n ops H0 o l u := fun _ => QS.extract hg ho hx hu
theorem US.extract {us : List AV} {i : Nat} (hd : o.dst = some d) (hn : d < n) (hg : o.guard = none) (ho : o.op = .extract x i) (hx : evO l x = some (.tup us)) (hu : us[i]? = some u) (hk : US P n ops Q H0 rest ((d, u) :: l) objs) : US P n ops Q H0 (o :: rest) l objs := US.qs hd hn (QS.extract hg ho hx hu) hk
theorem US.compare {f : FuncId} {fn : Func} {cc : Operand} {at_ : Array TypeId} {p q : ByteArray} (hd : o.dst = some d) (hn : d < n) (hg : o.guard = none) (ho : o.op = .call { callee := .value cc, args := #[x, y], argTypes := at_ }) (hc : evO l cc = some (.clo f []))
    (hf : P.funcs[f]? = some fn) (hname : (fn.name == "runtime.NumGoroutine") = false) (hb : fn.body.isNone = true) (hnx : Extern.findNext fn = none) (he : Extern.find fn = some Extern.BytealgCompare.compare)
    (hx : evO l x = some (.v (.string p))) (hy : evO l y = some (.v (.string q))) (hk : US P n ops Q H0 rest ((d, .v (.int .i64 (Lib.compareBytes p.data.toList q.data.toList))) :: l) objs) : US P n ops Q H0 (o :: rest) l objs :=
  US.step hd hn fun hdist => Does.compare hg ho (ev_of hc) hf hname hb hnx he (ev_of hx) (ev_of hy) ⟨objs, rfl, hdist, hk⟩
theorem US.freeze' (d : Nat) {off len : Nat} (k : Nat) {rows rs : List (List AV)} (hl : look l d = some (.own id off len sz)) (h2 : objs[k]? = some (id, .row e sz rows)) (hle : off + len ≤ rows.length) (hr : (rows.drop off).take len = rs) (hk : US P n ops Q H0 rest ((d, .sl rs) :: l) (objs.eraseIdx k)) : US P n ops Q H0 rest l objs :=
  US.freeze d k hl h2 hle (by rw [hr]; exact hk)
def litOk (sz : Nat) (uss : List (List AV)) : Bool := uss.all fun cs => cs.all cellAV && cs.length == sz
theorem lit_ok {uss : List (List AV)} (h : litOk sz uss = true) : ∀ cs ∈ uss, cs.all cellAV = true ∧ cs.length = sz := by
  intro cs hcs
  have := List.all_eq_true.1 h cs hcs
  rw [Bool.and_eq_true, beq_iff_eq] at this
  exact this
end
end Go.Eng
