/- The engine: strings.Builder and its like: pointers looked at, texts appended to bytes, bytes as a text; what lies outside of every call; contracts of the library. · More types of this program. · strings.Builder: what its methods do. -/
import Derived.Test.YtgmfgmbgmjbdhaaGreatDoorKx12
import Derived.Lib.UnsafeStr
import Derived.Lib.ConvBytes
import Derived.Lib.Builder
import Derived.Lib.LaidTab
import Derived.Laws.Pointers
import Derived.Laws.IdiomStrings
import Derived.Laws.BytesArg
import Derived.Test.YtgmfgmbgmjbdhaaGreatDoorKx10
section
set_option linter.unusedVariables false
set_option linter.unusedSimpArgs false
namespace Go.Eng
open Go Go.RowKit Go.Lib
set_option linter.unusedSectionVars false
variable [Rd]
theorem data_len (s : ByteArray) : s.data.toList.length = s.size := by rw [Array.length_toList]; rfl
/-- A text's bytes as rows of one cell. -/
def strRows (s : ByteArray) : List (List AV) := s.data.toList.map fun b => [.v (.int .u8 b.toNat)]
theorem strRows_len (s : ByteArray) : (strRows s).length = s.size := by unfold strRows; rw [List.length_map]; rfl
theorem strRows_sz (s : ByteArray) : ∀ cs ∈ strRows s, cs.length = 1 := by
  intro cs h
  obtain ⟨b, _, rfl⟩ := List.mem_map.1 h
  rfl
theorem strRows_flat (s : ByteArray) : (strRows s).flatten = s.data.toList.map fun b => AV.v (.int .u8 b.toNat) := by
  unfold strRows
  induction s.data.toList with
  | nil => rfl
  | cons b r ih => simp only [List.map_cons, List.flatten_cons, ih]; rfl
theorem strRows_rep {ok : Nat → Prop} {ρ : Rho} {w : World} (s : ByteArray) : RepCells ok ρ w (strRows s).flatten (strCells s) := by
  rw [strRows_flat]
  have := repcells_v (ok := ok) (ρ := ρ) (w := w) (strCells s) (List.all_eq_true.2 (strCells_oneCell s))
  unfold strCells at this ⊢
  rwa [List.map_map] at this
section
variable {P : Program} {n : Nat} {T : Sl} {H : Hp} {ops : Array Oper} {o : Oper} {K : AV → Hp → Prop}
theorem Does.append_str {t t' e : Nat} {s x : Operand} {id len : Nat} {rows : List (List AV)} {str : ByteArray} (hg : o.guard = none) (ho : o.op = .call { callee := .builtin .append, args := #[s, x], argTypes := #[t, t'] }) (ht : RowT P t e 1 1) (hz8 : (P.info? e).map (·.zero) = some (some (.int .u8 0))) (hu : P.underlying t' = some .string)
    (hs : ev T s = .own id 0 len 1) (h2 : H id = some (.row e 1 rows)) (hle : len ≤ rows.length) (hx : ev T x = .v (.string str)) (hb : len + str.size ≤ 140737488355328)
    (hk : ∀ id', H id' = none → K (.own id' 0 (len + str.size) 1) (set (set H id none) id' (some (.row e 1 (rows.take len ++ strRows str))))) : Does P n ops o T H K := by
  intro a w ρ h1 hd h3 h4 N Q hN
  rw [if_pos (by simp [Region.wanted, hg])]
  have hr := ev_rep h4
  have h5 := hr s
  rw [hs] at h5
  have h6x := hr x
  rw [hx] at h6x
  have hxv := rep_v h6x
  obtain ⟨v0, hv0, hz, inner, how, hl, hc⟩ := h3.ob _ _ h2
  have hcut : ∃ v, a.eval s = v ∧ w.ownsRow 0 e 1 v len (inner.take len) ∧ blk v = blk v0 ∧ v.ownBlock = v0.ownBlock := by
    generalize a.eval s = xx at h5
    have hil : inner.length = rows.length := by have := how.1; omega
    cases h5 with
    | own0 _ _ hv =>
      rw [hv0] at hv; cases hv
      exact ⟨_, rfl, ⟨by simp, .inl ⟨rfl, rfl⟩⟩, rfl, rfl⟩
    | ownE _ _ _ g m c o' c' hv h0 _ => exact absurd rfl h0
    | own _ _ _ _ g m cap hv hle' hmax =>
      rw [hv0] at hv; cases hv
      rcases how.2 with ⟨h6, _⟩ | ⟨g', cap', cur, h6, _, hg', h7, h8, h9, h10⟩
      · cases h6
      · cases h6
        refine ⟨_, rfl, ⟨by rw [List.length_take, hil]; omega, .inr ⟨g, cap, cur, by simp, Nat.zero_le _, hg', by omega, h8, h9, ?_⟩⟩, by simp [blk], by simp [Value.ownBlock]⟩
        rw [← h10, List.take_take]
        congr 1
        omega
  obtain ⟨v, hv, hown, hbv, hov⟩ := hcut
  obtain ⟨hut, _, i, hi, hsi, hbi⟩ := slT_some ht.sl
  have hzi : i.zero = some (.int .u8 0) := by rw [hi] at hz8; simpa using hz8
  have hml : len + str.size ≤ maxLen := by simp only [maxLen]; omega
  obtain ⟨v', w', hrun, hown', hgr, hnil⟩ := run_append_own_string (P := P) w 0 t t' o.type e i hut hu hi hzi hsi hbi v len (inner.take len) hown str hml hb (Nat.zero_le _)
  have hat : v'.ownBlock = v.ownBlock ∨ v'.ownBlock = some w.heap.size := by
    have hxl : (inner.take len).length = len := by simpa using hown.1
    rcases hown.2 with ⟨rfl, rfl⟩ | ⟨g, cap, cur, rfl, hbg, hg', hnc, hcm, hcs, htake⟩
    · by_cases hm : str.size = 0
      · exact .inl (by rw [hnil.2 ⟨rfl, hm⟩])
      · have hr2 := run_append_nil_string (P := P) w t t' o.type e i (.int .u8 0) hut hu hi hzi str (by omega) (by omega) (by rw [hbi]; omega)
        rw [hr2] at hrun
        cases hrun
        exact .inr rfl
    · by_cases hroom : len + str.size ≤ cap
      · have hr2 := run_append_room_string (P := P) w t t' o.type e i hut hu hi hsi g len cap cur hg' str hroom (by omega)
        rw [hr2] at hrun
        cases hrun
        exact .inl rfl
      · have holds : ∀ j u, (inner.take len)[j]? = some u → w.cell? ((⟨g, 0, none⟩ : Addr).add j) = some u := hown.cells (g := g) rfl
        have hr2 := run_append_grow_string (P := P) w t t' o.type e i (.int .u8 0) hut hu hi hzi ⟨g, 0, none⟩ len cap (inner.take len) (by rw [hsi]; omega) holds str (by omega) (by omega) (by rw [hbi]; exact growslice_fits (by omega) (by omega))
        rw [hr2] at hrun
        cases hrun
        exact .inr rfl
  have hsl := own_slice hown
  have hsl' := own_slice hown'
  have htk : RepCells (okOf ρ H) ρ w (rows.take len ++ strRows str).flatten (inner.take len ++ strCells str) := by
    rw [List.flatten_append, flatten_take 1 _ _ hl]
    refine repcells_append ?_ (strRows_rep str)
    have := repcells_sub hc 0 (len * 1)
    simpa using this
  obtain ⟨id', ρ', e1, e2, e3, e4, e5⟩ := h3.move (w' := w') (v := v') (.row e 1 (rows.take len ++ strRows str)) h2 hv0 hgr.os hgr.tape hgr.output hgr.size
    (fun k hk hn => hgr.block k hk (fun he => hn (by rw [← hbv]; exact (blk_own hsl).2 he.symm)))
    (fun k hk => ⟨by
      have hk' := (blk_own hsl').1 hk
      rcases hat with hat | hat
      · left; rw [← hbv]; exact (blk_own hsl).2 (by rw [← hat]; exact hk')
      · right; rw [hat] at hk'; cases hk'; exact Nat.le_refl _, own_lt hown' hk⟩)
    (fun ρ' H' e' => ⟨hz, inner.take len ++ strCells str, by
      have : (rows.take len ++ strRows str).length = len + str.size := by rw [List.length_append, strRows_len, List.length_take]; omega
      rw [this]; exact hown', fun cs hcs => by
        rcases List.mem_append.1 hcs with h6 | h6
        · exact hl cs (List.mem_of_mem_take h6)
        · exact strRows_sz str cs h6, e'.cells htk⟩)
  unfold Oper.wp
  rw [run_op_append2 ho (by rw [hv, hxv]; exact hrun)]
  exact hN v' w' ρ' _ _ e4 e5 (rep_own_new hown' e3) (hk id' e2)
theorem rep_ptr_form {ok : Nat → Prop} {ρ : Rho} {w : World} {id off : Nat} {x : Value} (h : Rep ok ρ w (.ptr id off) x) : ∃ g v, x = .pointer (some ⟨g, off, none⟩) ∧ ρ id = some v ∧ (v = .pointer (some ⟨g, 0, none⟩) ∨ ∃ n cap, v = .slice (some ⟨g, 0, none⟩) n cap) := by
  cases h with
  | ptr _ _ g v hv hx => exact ⟨g, v, rfl, hv, hx⟩
theorem Does.nilCheck {x : Operand} {id off : Nat} (hg : o.guard = none) (ho : o.op = .nilCheck x) (hx : ev T x = .ptr id off) (hk : K (.ptr id off) H) : Does P n ops o T H K := by
  refine Does.val _ hg (fun ac w ρ hh hr => ?_) hk
  have h3 := hr x
  rw [hx] at h3
  obtain ⟨g, v, e, _, _⟩ := rep_ptr_form h3
  refine ⟨ac.eval x, ?_, h3⟩
  unfold execOp
  rw [ho]
  simp only [e, Sem.run_pure]
theorem eqGuard_ptr {op : BinOp} {t : Nat} {x y : Operand} {p : Option Addr} {b : Value} {w : World} : (eqGuard op t x y (.pointer p) b).run P w = .ok () w := by
  unfold eqGuard
  cases op <;> simp
/-- A pointer that is none, held against none. -/
theorem Does.nil_eql {t t2 e : Nat} {x : Operand} (hg : o.guard = none) (ho : o.op = .binOp .eql t x (.const (.pointer none)) t2) (ht : P.underlying t = some (.pointer e)) (hx : ev T x = .v (.pointer none)) (hk : K (.v (.bool true)) H) : Does P n ops o T H K := by
  refine Does.val _ hg (fun ac w ρ hh hr => ⟨_, run_op_bin ho ?_ ?_, .v _⟩) hk
  · have h3 := hr x
    rw [hx] at h3
    rw [rep_v h3]; exact eqGuard_ptr
  · have h3 := hr x
    rw [hx] at h3
    rw [rep_v h3]
    exact run_eql_pointer_nil w t _ (by unfold Program.pointee; rw [ht])
/-- An own object's address, held against none. -/
theorem Does.ptr_eql {t t2 e : Nat} {x : Operand} {id off : Nat} (hg : o.guard = none) (ho : o.op = .binOp .eql t x (.const (.pointer none)) t2) (ht : P.underlying t = some (.pointer e)) (hx : ev T x = .ptr id off) (hk : K (.v (.bool false)) H) : Does P n ops o T H K := by
  refine Does.val _ hg (fun ac w ρ hh hr => ⟨_, run_op_bin ho ?_ ?_, .v _⟩) hk
  · have h3 := hr x
    rw [hx] at h3
    obtain ⟨g, v, e, _, _⟩ := rep_ptr_form h3
    rw [e]; exact eqGuard_ptr
  · have h3 := hr x
    rw [hx] at h3
    obtain ⟨g, v, e, _, _⟩ := rep_ptr_form h3
    rw [e]
    exact run_eql_pointer_nil w t _ (by unfold Program.pointee; rw [ht])
/-- An own object's address, held against itself. -/
theorem Does.ptr_neq {t t2 e : Nat} {x y : Operand} {id off : Nat} {j : TypeInfo} (hg : o.guard = none) (ho : o.op = .binOp .neq t x y t2) (ht : P.underlying t = some (.pointer e)) (hj : P.info? e = some j) (hx : ev T x = .ptr id off) (hy : ev T y = .ptr id off) (hk : K (.v (.bool false)) H) : Does P n ops o T H K := by
  refine Does.val _ hg (fun ac w ρ hh hr => ?_) hk
  have h3 := hr x
  have h4 := hr y
  rw [hx] at h3
  rw [hy] at h4
  obtain ⟨g, v, e1, hv, hf⟩ := rep_ptr_form h3
  obtain ⟨g', v', e2, hv', hf'⟩ := rep_ptr_form h4
  rw [hv] at hv'
  cases hv'
  have hgg : g' = g := by
    rcases hf with rfl | ⟨_, _, rfl⟩ <;> rcases hf' with h | ⟨_, _, h⟩ <;> cases h <;> rfl
  subst hgg
  exact ⟨_, run_op_bin ho (by rw [e1]; exact eqGuard_ptr) (by rw [e1, e2]; exact run_neq_ptr_same w _ ht hj), .v _⟩
/-- A pointer to an own box as an unsafe one, and back. -/
theorem Does.to_unsafe {s d e t0 : Nat} {x : Operand} {id : Nat} {cells : List AV} {j : TypeInfo} (hg : o.guard = none) (ho : o.op = .convert s d x) (hs : P.underlying s = some (.pointer e)) (hd : P.underlying d = some .unsafePointer) (hj : P.info? e = some j) (hj0 : j.size ≠ 0) (hx : ev T x = .ptr id 0) (h2 : H id = some (.box t0 cells)) (hc : cells ≠ []) (hk : K (.ptr id 0) H) : Does P n ops o T H K := by
  refine Does.val _ hg (fun ac w ρ hh hr => ?_) hk
  have h3 := hr x
  rw [hx] at h3
  obtain ⟨g, vals, e1, hv, hgc, hrc⟩ := rep_ptr_box hh h2 h3
  refine ⟨ac.eval x, ?_, h3⟩
  have hl : 0 < vals.length := by rw [← hrc.1]; exact List.length_pos_iff.2 hc
  have := run_to_unsafe (P := P) w (src := s) (dst := d) ⟨g, 0, none⟩ hs hd hj hj0 (cells := vals.length) (e := t0) (by simp [World.shape?, hgc]) hl
  unfold execOp
  rw [ho]
  simp only [e1, Sem.run_bind, this, Result.andThen_ok, Sem.run_pure]
theorem Does.from_unsafe {s d e t0 : Nat} {x : Operand} {id : Nat} {cells : List AV} {j : TypeInfo} (hg : o.guard = none) (ho : o.op = .convert s d x) (hs : P.underlying s = some .unsafePointer) (hd : P.underlying d = some (.pointer e)) (hj : P.info? e = some j) (hl : liesAt P P.depth t0 (cells.length / P.cellsOf t0) 0 e 1 = true) (hx : ev T x = .ptr id 0) (h2 : H id = some (.box t0 cells)) (hk : K (.ptr id 0) H) : Does P n ops o T H K := by
  refine Does.val _ hg (fun ac w ρ hh hr => ?_) hk
  have h3 := hr x
  rw [hx] at h3
  obtain ⟨g, vals, e1, hv, hgc, hrc⟩ := rep_ptr_box hh h2 h3
  refine ⟨ac.eval x, ?_, h3⟩
  have := run_from_unsafe (P := P) w (src := s) (dst := d) ⟨g, 0, none⟩ hs hd hj (cells := vals.length) (e := t0) (by simp [World.shape?, hgc]) (by rw [← hrc.1]; exact hl)
  unfold execOp
  rw [ho]
  simp only [e1, Sem.run_bind, this, Result.andThen_ok, Sem.run_pure]
/-- A call of an entry that hands its argument back. -/
theorem Does.same_ext {f : Nat} {fn : Func} {cc x : Operand} {at_ : Array TypeId} {u : AV} (hg : o.guard = none) (ho : o.op = .call { callee := .value cc, args := #[x], argTypes := at_ }) (hf : P.funcs[f]? = some fn) (hname : (fn.name == "runtime.NumGoroutine") = false) (hb : fn.body.isNone = true) (hn : Extern.findNext fn = none) (he : Extern.find fn = some Extern.AbiNoEscape.same)
    (hc : ev T cc = .clo f []) (hx : ev T x = u) (hk : K u H) : Does P n ops o T H K := by
  refine Does.val _ hg (fun ac w ρ hh hr => ?_) hk
  have h3 := hr x
  have h4 := hr cc
  rw [hx] at h3
  rw [hc] at h4
  obtain ⟨vs, hcv, hvs⟩ := rep_clo h4
  have hvs0 : vs = [] := List.eq_nil_of_length_eq_zero (by simpa using hvs.1.symm)
  subst hvs0
  refine ⟨ac.eval x, ?_, h3⟩
  have h8 := run_callFunc_extern (P := P) hf hname hb hn he #[ac.eval x] w
  rw [run_noEscape] at h8
  unfold execOp
  rw [ho]
  generalize ac.eval = ev' at hcv h3 h8 ⊢
  simp only [resolve, Deferred.ofValue, hcv, invoke, Sem.run_bind, Sem.run_pure, Result.andThen_ok, List.map_toArray, List.map_cons, List.map_nil]
  simpa using h8
theorem HRel.kill {ρ : Rho} {w w' : World} {id : Nat} {v : Value} {ob0 : Ob} (h : HRel ρ H w) (h0 : H id = some ob0) (hr : ρ id = some v) (hos : w'.os = w.os) (htape : w'.tape = w.tape) (hout : w'.output = w.output) (hsize : w.heap.size ≤ w'.heap.size) (hch : ∀ k, k < w.heap.size → blk v ≠ some k → w'.heap[k]? = w.heap[k]?) :
    HRel ρ (set H id none) w' ∧ Ext ρ H w ρ (set H id none) w' := by
  have hsub : Sub (set H id none) H := fun i ob hi => by
    by_cases hj : i = id
    · subst hj; rw [set_self] at hi; cases hi
    · rwa [set_ne _ _ hj] at hi
  have e : Ext ρ H w ρ (set H id none) w' := ⟨hos, htape, hout, hsize, fun k hk hn => hch k hk (fun he => hn ⟨id, ob0, v, h0, hr, he⟩), fun k hk => .inl (own_sub hsub hk), fun _ _ h => h⟩
  refine ⟨⟨fun i ob hi => ?_, fun i i' o o' v v' k a b => h.apart i i' o o' v v' k (hsub i o a) (hsub i' o' b), h.room, fun i v k a b => Nat.lt_of_lt_of_le (h.lt i v k a b) hsize⟩, e⟩
  have hi2 := hsub i ob hi
  have hne : i ≠ id := fun he => by subst he; rw [set_self] at hi; cases hi
  obtain ⟨v', hv', hob⟩ := h.ob i ob hi2
  exact ⟨v', hv', hob.ext e fun k hk => hch k (h.lt i v' k hv' hk) fun he => hne (h.apart i id ob ob0 v' v k hi2 h0 hv' hr hk he)⟩
/-- What an operation does that adds blocks and turns none. -/
theorem HRel.below {ρ : Rho} {w w' : World} (h : HRel ρ H w) (hb : Below w.heap.size w w') : HRel ρ H w' ∧ Ext ρ H w ρ H w' := by
  have e : Ext ρ H w ρ H w' := ⟨hb.os, hb.tape, hb.output, hb.size, fun k hk _ => hb.block k hk, fun k hk => .inl hk, fun _ _ h => h⟩
  exact ⟨⟨fun i ob hi => by
    obtain ⟨v, hv, hob⟩ := h.ob i ob hi
    exact ⟨v, hv, hob.ext e fun k hk => hb.block k (h.lt i v k hv hk)⟩, h.apart, h.room, fun i v k a b => Nat.lt_of_lt_of_le (h.lt i v k a b) hb.size⟩, e⟩
theorem run_op_usd {a : Act} {w w' : World} {x : Operand} {t : TypeId} {v' : Value} (ho : o.op = .call { callee := .builtin .unsafeSliceData, args := #[x], argTypes := #[t] })
    (h : (Builtin.unsafeSliceData_ #[t] o.type #[a.eval x]).run P w = .ok v' w') : (execOp a.eval o).run P w = .ok (.value v') w' := by
  unfold execOp
  rw [ho]
  simp only [resolve, List.map_toArray, List.map_cons, List.map_nil, Sem.run_bind, Sem.run_pure, Result.andThen_ok, invoke, builtin, h]
theorem run_op_ust {a : Act} {w w' : World} {x y : Operand} {t t' : TypeId} {v' : Value} (ho : o.op = .call { callee := .builtin .unsafeString, args := #[x, y], argTypes := #[t, t'] })
    (h : (Builtin.unsafeString_ #[t, t'] o.type #[a.eval x, a.eval y]).run P w = .ok v' w') : (execOp a.eval o).run P w = .ok (.value v') w' := by
  unfold execOp
  rw [ho]
  simp only [resolve, List.map_toArray, List.map_cons, List.map_nil, Sem.run_bind, Sem.run_pure, Result.andThen_ok, invoke, builtin, h]
theorem Does.sliceData {t e sz : Nat} {x : Operand} {id len : Nat} {rows : List (List AV)} (hg : o.guard = none) (ho : o.op = .call { callee := .builtin .unsafeSliceData, args := #[x], argTypes := #[t] }) (hx : ev T x = .own id 0 len sz) (h2 : H id = some (.row e sz rows)) (hl : 0 < len) (hk : K (.ptr id 0) H) : Does P n ops o T H K := by
  refine Does.val _ hg (fun ac w ρ hh hr => ?_) hk
  have h3 := hr x
  rw [hx] at h3
  obtain ⟨g, cap, cur, inner, q1, q2, q3, q4, _⟩ := row_at hh h2 h3 hl
  rw [Nat.zero_mul, Nat.sub_zero] at q2
  refine ⟨.pointer (some ⟨g, 0, none⟩), run_op_usd ho ?_, .ptr id 0 g _ q1 (.inr ⟨_, _, rfl⟩)⟩
  rw [q2]
  exact run_unsafeSliceData_row w _ _ _ _ _ (by omega)
/-- The bytes of a row, as a text: the row is given up. -/
theorem Does.unsafeString {t t' e : Nat} {x y : Operand} {id len : Nat} {s : ByteArray} (hg : o.guard = none) (ho : o.op = .call { callee := .builtin .unsafeString, args := #[x, y], argTypes := #[t, t'] }) (ht : P.underlying t = some (.pointer e)) (hce : P.cellsOf e = 1) (hx : ev T x = .ptr id 0) (hy : ev T y = .v (.int .i64 (len : Int))) (h2 : H id = some (.row e 1 (strRows s))) (hl : 0 < len) (hls : len = s.size)
    (hk : K (.v (.string s)) (set H id none)) : Does P n ops o T H K := by
  subst hls
  intro a w ρ h1 hd h3 h4 N Q hN
  rw [if_pos (by simp [Region.wanted, hg])]
  have h5 := ev_rep h4 x
  have h6 := ev_rep h4 y
  rw [hx] at h5
  rw [hy] at h6
  obtain ⟨g, v, e1, hv, hf⟩ := rep_ptr_form h5
  obtain ⟨v0, hv0, hz, inner, how, hrl, hc⟩ := h3.ob _ _ h2
  rw [hv0] at hv
  cases hv
  rw [strRows_len] at how
  rcases how.2 with ⟨h7, h8⟩ | ⟨g', cap, cur, h7, _, hg', h8, h9, h10, h11⟩
  · omega
  subst h7
  have hgg : g' = g := by rcases hf with h | ⟨_, _, h⟩ <;> cases h; rfl
  subst hgg
  have hdl : s.data.toList.length = s.size := data_len s
  have hin : inner = strCells s := by
    have h12 := hc.1
    rw [strRows_flat, List.length_map] at h12
    refine List.ext_getElem? fun j => ?_
    by_cases hj : j < s.data.toList.length
    · have h13 := (hc.2 j (.v (.int .u8 (s.data.toList[j]).toNat)) (inner[j]'(by omega)) (by rw [strRows_flat, List.getElem?_map, List.getElem?_eq_getElem hj]; rfl) (List.getElem?_eq_getElem (by omega))).1
      rw [List.getElem?_eq_getElem (by omega), rep_v h13, strCells, List.getElem?_map, List.getElem?_eq_getElem hj]; rfl
    · rw [List.getElem?_eq_none (by omega), List.getElem?_eq_none (by rw [strCells_length]; omega)]
  have hcell : ∀ j (b : UInt8), s.data.toList[j]? = some b → w.cell? ((⟨g', 0, none⟩ : Addr).add j) = some (.int .u8 b.toNat) := by
    intro j b hb
    have hj := (List.getElem?_eq_some_iff.1 hb).1
    have h14 : cur.toList[j]? = some (.int .u8 b.toNat) := by
      have : (cur.toList.take (s.size * 1))[j]? = some (.int .u8 b.toNat) := by rw [h11, hin, strCells, List.getElem?_map, hb]; rfl
      rw [List.getElem?_take, if_pos (by omega)] at this
      exact this
    rw [add_plain, Nat.zero_add]
    simp only [World.cell?, hg']
    simpa using h14
  have hrun := run_unsafeString_row (P := P) w t t' o.type e ht hce g' cur.size (by simp [World.shape?, hg']) s.data.toList (by intro h; rw [h] at hdl; simp at hdl; omega) (by rw [hdl]; omega) (by rw [hdl]; simp only [maxLen] at h9; omega) hcell
  rw [hdl] at hrun
  have hs' : (⟨s.data.toList.toArray⟩ : ByteArray) = s := by rw [Array.toArray_toList]
  rw [hs'] at hrun
  unfold Oper.wp
  rw [run_op_ust ho (by rw [e1, rep_v h6]; exact hrun)]
  have hfz : ∀ k, k ≠ g' → (w.freeze ⟨g', 0, none⟩ s.size).heap[k]? = w.heap[k]? := fun k hk => by
    unfold World.freeze
    split
    · rfl
    · simp only [Array.getElem?_modify]
      rw [if_neg (fun h => hk h.symm)]
  have hw := h3.kill (w' := w.freeze ⟨g', 0, none⟩ s.size) h2 hv0 (by unfold World.freeze; split <;> rfl) (by unfold World.freeze; split <;> rfl) (by unfold World.freeze; split <;> rfl) (by unfold World.freeze; split <;> simp) (fun k hk hn => hfz k (fun h => hn (by simp [blk, h])))
  exact hN _ _ ρ _ _ hw.1 hw.2 (.v _) hk
theorem strRows_at {s : ByteArray} {j : Nat} (hj : j < s.size) : (strRows s)[j]? = some [.v (.int .u8 (s.data.toList[j]'(by rw [data_len]; exact hj)).toNat)] := by
  unfold strRows
  rw [List.getElem?_map, List.getElem?_eq_getElem (by rw [data_len]; exact hj)]; rfl
theorem Does.bytes_str {t t2 e : Nat} {x : Operand} {s : ByteArray} (hg : o.guard = none) (ho : o.op = .convert t t2 x) (ht : P.underlying t = some (.slice e)) (he : P.underlying e = some (.int .u8)) (hd : P.underlying t2 = some .string) (hx : ev T x = .sl (strRows s)) (hk : K (.v (.string s)) H) : Does P n ops o T H K := by
  refine Does.val _ hg (fun ac w ρ hh hr => ⟨.string s, ?_, .v _⟩) hk
  have h3 := hr x
  rw [hx] at h3
  have hdl : s.data.toList.length = s.size := data_len s
  have key : (convert t t2 (ac.eval x)).run P w = .ok (.string s) w := by
    generalize hrows : strRows s = rows at h3
    generalize ac.eval x = z at h3
    cases h3 with
    | nil =>
      have h0 : s.size = 0 := by rw [← strRows_len, hrows]; rfl
      have := run_convert_bytes_nil (P := P) w t e ht he 0 0 t2 hd
      rw [this]
      congr 2
      exact ByteArray.ext (by
        have : s.data.size = 0 := h0
        have h1 : s.data = #[] := Array.eq_empty_of_size_eq_zero this
        rw [h1]; rfl)
    | sl _ a cap sz vals hcap hmax hok hsz hc hr2 =>
      have hl2 : rows.length = s.data.toList.length := by rw [← hrows, strRows_len, hdl]
      rw [hl2]
      have := run_convert_bytes_back (P := P) w t t2 e a cap s.data.toList ht he hd (fun j hj => by
        have hjs : j < s.size := by omega
        have hrj := strRows_at hjs
        rw [hrows] at hrj
        obtain ⟨h4, _⟩ := hc j _ 0 hrj (by simp)
        have h5 := hr2 j _ 0 _ hrj rfl
        have hsz1 : sz = 1 := by have := hsz _ (List.mem_of_getElem? hrj); simpa using this.symm
        subst hsz1
        rw [Nat.mul_one, Nat.add_zero] at h4
        exact h4.trans (congrArg some (rep_v h5)))
      rw [this, Array.toArray_toList]
  unfold execOp
  rw [ho]
  simp only [Sem.run_bind, key, Result.andThen_ok, Sem.run_pure]
/-- A text's bytes in new memory, that is only read. -/
theorem Does.str_bytes {t t2 e : Nat} {x : Operand} {s : ByteArray} (hg : o.guard = none) (ho : o.op = .convert t t2 x) (ht : P.underlying t = some .string) (hd : P.underlying t2 = some (.slice e)) (he : P.underlying e = some (.int .u8)) (hx : ev T x = .v (.string s)) (hm : s.size ≤ 140737488355328) (hk : K (.sl (strRows s)) H) : Does P n ops o T H K := by
  intro a w ρ h1 hd0 h3 h4 N Q hN
  rw [if_pos (by simp [Region.wanted, hg])]
  have h5 := ev_rep h4 x
  rw [hx] at h5
  have hb : Below w.heap.size w (bytesWorld w e s) := ⟨by unfold bytesWorld World.freeze; split <;> rfl, by unfold bytesWorld World.freeze; split <;> rfl, by unfold bytesWorld World.freeze; split <;> rfl, by rw [bytesWorld_size]; omega, fun k hk => bytesWorld_at_old w e s k hk⟩
  obtain ⟨hh, hx2⟩ := h3.below hb
  have hge := grownCap_ge w s.size 0 e
  have hmx : grownCap w s.size 0 e ≤ maxLen := grownCap_le_maxLen w s.size 0 e (by simp only [maxLen]; omega)
  have hrep : Rep (okOf ρ H) ρ (bytesWorld w e s) (.sl (strRows s)) (.slice (some ⟨w.heap.size, 0, none⟩) s.size (grownCap w s.size 0 e)) := by
    have := Rep.sl (ok := okOf ρ H) (ρ := ρ) (w := bytesWorld w e s) (strRows s) ⟨w.heap.size, 0, none⟩ (grownCap w s.size 0 e) 1 (fun i _ => .int .u8 (s.data.toList.getD i 0).toNat) (by rw [strRows_len]; exact hge) hmx
      (fun _ => ⟨fun ⟨i, ob, v, a, b, c⟩ => by have := h3.lt i v _ b c; simp at this, by rw [bytesWorld_size]; simp⟩) (strRows_sz s) (fun i cs j hi hj => by
        have hi2 : i < s.size := by rw [← strRows_len]; exact (List.getElem?_eq_some_iff.1 hi).1
        have hj0 : j = 0 := by have := strRows_sz s cs (List.mem_of_getElem? hi); omega
        subst hj0
        rw [add_plain, Nat.zero_add, Nat.mul_one, Nat.add_zero]
        exact ⟨bytesWorld_cell w e s i hi2, rfl⟩) (fun i cs j u hi hj => by
        have hi2 : i < s.size := by rw [← strRows_len]; exact (List.getElem?_eq_some_iff.1 hi).1
        rw [strRows_at hi2] at hi
        cases hi
        match j with
        | 0 =>
          cases hj
          have hil : i < s.data.toList.length := by rw [data_len]; exact hi2
          rw [List.getD_eq_getElem?_getD, List.getElem?_eq_getElem hil]
          exact .v _
        | j + 1 => simp at hj)
    rwa [strRows_len] at this
  have hrun := Go.Lib.run_convert_string_bytes (P := P) w t t2 e s ht hd he
  have e1 := rep_v h5
  unfold Oper.wp
  have : (execOp a.eval o).run P w = .ok (.value (.slice (some ⟨w.heap.size, 0, none⟩) s.size (grownCap w s.size 0 e))) (bytesWorld w e s) := by
    unfold execOp
    rw [ho]
    simp only [e1, Sem.run_bind, hrun, Result.andThen_ok, Sem.run_pure]
  rw [this]
  exact hN _ _ ρ _ _ hh hx2 hrep hk
/-- Called with values that hang on no memory: what it answers hangs on none; only new blocks come. -/
theorem ACall.of_calls {f : Nat} {us : List AV} {r : Value} (hb : Bodied P f) (h : ∀ ρ w vals, HRel ρ H w → Reps (okOf ρ H) ρ w us vals → Calls P f vals.toArray w fun e w' => e = .returned r ∧ Below w.heap.size w w') : ACall P f us H (IsR H (.v r)) :=
  ⟨hb, fun ρ w vals hh hr => (h ρ w vals hh hr).mono fun e w' ⟨he, hbl⟩ => by
    obtain ⟨h1, h2⟩ := hh.below hbl
    exact ⟨r, ρ, .v r, H, he, h1, h2, .v _, rfl, rfl⟩⟩
/-- A block that stands outside of every call. -/
theorem HRel.raw {ρ : Rho} {w : World} {id g : Nat} {x : Obj} (h : HRel ρ H w) (h0 : H id = some (.raw g x)) : w.heap[g]? = some x := by
  obtain ⟨v, _, hob⟩ := h.ob _ _ h0
  exact hob.2.2.1
end
section
variable {P : Program} {n : Nat} {ops : Array Oper} {H0 : Hp} {l : List (Nat × AV)} {objs objs' : List (Nat × Ob)} {dst : Option Nat} {ty : TypeId} {ps : String} {af : Array Edge} {x y : Operand} {u r : AV} {t t2 t' e sz id off len k : Nat} {cells us : List AV} {rows : List (List AV)} {s str : ByteArray} {K : AV → List (Nat × Ob) → Prop}
theorem Z.nck (hx : evO l x = some (.ptr id off)) : QS P n ops H0 ⟨dst, .nilCheck x, ty, ps, af, none⟩ l objs (.ptr id off) := fun _ => Does.nilCheck rfl rfl (ev_of hx) ⟨rfl, rfl⟩
theorem Z.pnt (ht : P.underlying t = some (.pointer e)) (hx : evO l x = some (.v (.pointer none))) : QS P n ops H0 ⟨dst, .binOp .eql t x (.const (.pointer none)) t2, ty, ps, af, none⟩ l objs (.v (.bool true)) := fun _ => Does.nil_eql rfl rfl ht (ev_of hx) ⟨rfl, rfl⟩
theorem Z.pnf (ht : P.underlying t = some (.pointer e)) (hx : evO l x = some (.ptr id off)) : QS P n ops H0 ⟨dst, .binOp .eql t x (.const (.pointer none)) t2, ty, ps, af, none⟩ l objs (.v (.bool false)) := fun _ => Does.ptr_eql rfl rfl ht (ev_of hx) ⟨rfl, rfl⟩
theorem Z.pne (ht : P.underlying t = some (.pointer e)) (hx : evO l x = some (.ptr id off)) (hy : evO l y = some (.ptr id off)) (hj : (P.info? e).isSome = true := by kernel_rfl) : QS P n ops H0 ⟨dst, .binOp .neq t x y t2, ty, ps, af, none⟩ l objs (.v (.bool false)) := by
  obtain ⟨j, hj⟩ := Option.isSome_iff_exists.1 hj
  exact fun _ => Does.ptr_neq rfl rfl ht hj (ev_of hx) (ev_of hy) ⟨rfl, rfl⟩
theorem Z.tou {t0 : Nat} (k : Nat) (hs : P.underlying t = some (.pointer e)) (hd : P.underlying t2 = some .unsafePointer) (hx : evO l x = some (.ptr id 0)) (h2 : objs[k]? = some (id, .box t0 cells)) (hc : cells ≠ []) (hj : (P.info? e).any (·.size != 0) = true := by kernel_rfl) : QS P n ops H0 ⟨dst, .convert t t2 x, ty, ps, af, none⟩ l objs (.ptr id 0) := by
  cases hi : P.info? e with
  | none => rw [hi] at hj; cases hj
  | some j =>
    rw [hi] at hj
    exact fun hd0 => Does.to_unsafe rfl rfl hs hd hi (by simpa using hj) (ev_of hx) (hd0.at_ h2) hc ⟨rfl, rfl⟩
theorem Z.fru {t0 m : Nat} (k : Nat) (hs : P.underlying t = some .unsafePointer) (hd : P.underlying t2 = some (.pointer e)) (hx : evO l x = some (.ptr id 0)) (h2 : objs[k]? = some (id, .box t0 cells)) (hm : cells.length = m) (hl : liesAt P P.depth t0 (m / P.cellsOf t0) 0 e 1 = true := by kernel_rfl) (hj : (P.info? e).isSome = true := by kernel_rfl) : QS P n ops H0 ⟨dst, .convert t t2 x, ty, ps, af, none⟩ l objs (.ptr id 0) := by
  subst hm
  obtain ⟨j, hj⟩ := Option.isSome_iff_exists.1 hj
  exact fun hd0 => Does.from_unsafe rfl rfl hs hd hj hl (ev_of hx) (hd0.at_ h2) ⟨rfl, rfl⟩
theorem Z.nox {f : Nat} {fn : Func} {cc : Operand} {at_ : Array TypeId} (hf : P.funcs[f]? = some fn) (hc : evO l cc = some (.clo f [])) (hx : evO l x = some u) (hname : (fn.name == "runtime.NumGoroutine") = false := by kernel_rfl) (hb : fn.body.isNone = true := by kernel_rfl) (hn : Extern.findNext fn = none := by kernel_rfl) (he : Extern.find fn = some Extern.AbiNoEscape.same := by kernel_rfl) : QS P n ops H0 ⟨dst, .call { callee := .value cc, args := #[x], argTypes := at_ }, ty, ps, af, none⟩ l objs u := fun _ => Does.same_ext rfl rfl hf hname hb hn he (ev_of hc) (ev_of hx) ⟨rfl, rfl⟩
theorem D.aps (k : Nat) (ht : RowT P t e 1 1) (hz8 : (P.info? e).map (·.zero) = some (some (.int .u8 0))) (hu : P.underlying t' = some .string) (hs : evO l y = some (.own id 0 len 1)) (h2 : objs[k]? = some (id, .row e 1 rows)) (hle : len ≤ rows.length) (hx : evO l x = some (.v (.string str))) (hb : len + str.size ≤ 140737488355328) {rws : List (List AV)} (hr : rows.take len ++ strRows str = rws)
    (hk : ∀ id', K (.own id' 0 (len + str.size) 1) ((id', .row e 1 rws) :: objs.eraseIdx k)) : DS P n ops H0 ⟨dst, .call { callee := .builtin .append, args := #[y, x], argTypes := #[t, t'] }, ty, ps, af, none⟩ l objs K :=
  fun hdist => by
    subst hr
    have hkill := hdist.kill h2
    refine Does.append_str rfl rfl ht hz8 hu (ev_of hs) (hdist.at_ h2) hle (ev_of hx) hb fun id' hid => ⟨(id', .row e 1 (rows.take len ++ strRows str)) :: objs.eraseIdx k, ?_, ?_, hk id'⟩
    · rw [hkill.1]; rfl
    · have hne : id' ≠ id := fun he => by rw [he, hdist.at_ h2] at hid; cases hid
      exact .cons (by rw [← hkill.1, set_ne _ _ hne]; exact hid) hkill.2
theorem Z.usd (k : Nat) (hx : evO l x = some (.own id 0 len sz)) (h2 : objs[k]? = some (id, .row e sz rows)) (hl : 0 < len) : QS P n ops H0 ⟨dst, .call { callee := .builtin .unsafeSliceData, args := #[x], argTypes := #[t] }, ty, ps, af, none⟩ l objs (.ptr id 0) := fun hd => Does.sliceData rfl rfl (ev_of hx) (hd.at_ h2) hl ⟨rfl, rfl⟩
theorem D.ust (k : Nat) (ht : P.underlying t = some (.pointer e)) (hce : P.cellsOf e = 1) (hx : evO l x = some (.ptr id 0)) (hy : evO l y = some (.v (.int .i64 (len : Int)))) (h2 : objs[k]? = some (id, .row e 1 (strRows s))) (hl : 0 < len) (hls : len = s.size) (hk : K (.v (.string s)) (objs.eraseIdx k)) : DS P n ops H0 ⟨dst, .call { callee := .builtin .unsafeString, args := #[x, y], argTypes := #[t, t'] }, ty, ps, af, none⟩ l objs K :=
  fun hdist => Does.unsafeString rfl rfl ht hce (ev_of hx) (ev_of hy) (hdist.at_ h2) hl hls ⟨_, (hdist.kill h2).1, (hdist.kill h2).2, hk⟩
theorem Z.b2s (ht : P.underlying t = some (.slice e)) (he : P.underlying e = some (.int .u8)) (hd : P.underlying t2 = some .string) (hx : evO l x = some (.sl (strRows s))) : QS P n ops H0 ⟨dst, .convert t t2 x, ty, ps, af, none⟩ l objs (.v (.string s)) := fun _ => Does.bytes_str rfl rfl ht he hd (ev_of hx) ⟨rfl, rfl⟩
theorem Z.s2b (ht : P.underlying t = some .string) (hd : P.underlying t2 = some (.slice e)) (he : P.underlying e = some (.int .u8)) (hx : evO l x = some (.v (.string s))) (hm : s.size ≤ 140737488355328) : QS P n ops H0 ⟨dst, .convert t t2 x, ty, ps, af, none⟩ l objs (.sl (strRows s)) := fun _ => Does.str_bytes rfl rfl ht hd he (ev_of hx) hm ⟨rfl, rfl⟩
/-- New memory, its nil slices left as they are. -/
theorem D.alp {zs : List Value} {zv : Value} (hz : (P.info? e).map (·.zero) = some (some zv)) (hzs : zv.cells.toList = zs) (hv : vals zs = some us) (hk : ∀ id, K (.ptr id 0) ((id, .box e us) :: objs)) (hc : zs.all (·.oneCell') = true := by rfl) : DS P n ops H0 ⟨dst, .alloc e, ty, ps, af, none⟩ l objs K := by
  subst hzs
  exact fun hd => Does.alloc rfl rfl hz hc fun id hid => ⟨(id, .box e us) :: objs, by rw [← vals_eq hv]; rfl, .cons hid hd, hk id⟩
end
end Go.Eng
end
section
namespace Go.Proofs.YtgmfgmbgmjbdhaaGreatDoor
open Go Go.RowKit Go.Eng
set_option maxRecDepth 100000
theorem ty68 : tyOf Tryz.prog 68 = some (true, 4) := by kernel_rfl
theorem ty80 : tyOf Tryz.prog 80 = some (false, 1) := by kernel_rfl
theorem ty91 : tyOf Tryz.prog 91 = some (false, 1) := by kernel_rfl
theorem ty118 : tyOf Tryz.prog 118 = some (false, 1) := by kernel_rfl
theorem ty119 : tyOf Tryz.prog 119 = some (false, 1) := by kernel_rfl
theorem ty121 : tyOf Tryz.prog 121 = some (true, 8) := by kernel_rfl
theorem ty122 : tyOf Tryz.prog 122 = some (false, 1) := by kernel_rfl
theorem ty124 : tyOf Tryz.prog 124 = some (true, 10) := by kernel_rfl
theorem ty151 : tyOf Tryz.prog 151 = some (true, 64) := by kernel_rfl
theorem sl133 : slT Tryz.prog 133 = some (118, 1, 4) := by kernel_rfl
theorem sl149 : slT Tryz.prog 149 = some (22, 1, 24) := by kernel_rfl
theorem sl155 : slT Tryz.prog 155 = some (119, 1, 4) := by kernel_rfl
theorem z22 : (Tryz.prog.info? 22).map (·.zero) = some (some (.slice none 0 0)) := by kernel_rfl
theorem z23 : (Tryz.prog.info? 23).map (·.zero) = some (some (.slice none 0 0)) := by kernel_rfl
theorem z68 : (Tryz.prog.info? 68).map (·.zero) = some (some (.agg #[.string ⟨#[]⟩, .int .i64 0, .int .i64 0, .int .i64 0])) := by kernel_rfl
theorem z82 : (Tryz.prog.info? 82).map (·.zero) = some (some (.agg #[.pointer none, .slice none 0 0])) := by kernel_rfl
theorem z118 : (Tryz.prog.info? 118).map (·.zero) = some (some (.int .u32 0)) := by kernel_rfl
theorem z121 : (Tryz.prog.info? 121).map (·.zero) = some (some (.agg #[.int .u32 0, .int .u32 0, .int .u32 0, .int .u32 0, .int .u32 0, .int .u32 0, .int .u32 0, .int .u32 0])) := by kernel_rfl
theorem z124 : (Tryz.prog.info? 124).map (·.zero) = some (some (.agg #[.int .u32 0, .int .u32 0, .int .u32 0, .int .u32 0, .int .u32 0, .int .u32 0, .int .u32 0, .int .u32 0, .slice none 0 0, .int .u64 0])) := by kernel_rfl
theorem z151 : (Tryz.prog.info? 151).map (·.zero) = some (some (.agg #[.int .u32 0, .int .u32 0, .int .u32 0, .int .u32 0, .int .u32 0, .int .u32 0, .int .u32 0, .int .u32 0, .int .u32 0, .int .u32 0, .int .u32 0, .int .u32 0, .int .u32 0, .int .u32 0, .int .u32 0, .int .u32 0, .int .u32 0, .int .u32 0, .int .u32 0, .int .u32 0, .int .u32 0, .int .u32 0, .int .u32 0, .int .u32 0, .int .u32 0, .int .u32 0, .int .u32 0, .int .u32 0, .int .u32 0, .int .u32 0, .int .u32 0, .int .u32 0, .int .u32 0, .int .u32 0, .int .u32 0, .int .u32 0, .int .u32 0, .int .u32 0, .int .u32 0, .int .u32 0, .int .u32 0, .int .u32 0, .int .u32 0, .int .u32 0, .int .u32 0, .int .u32 0, .int .u32 0, .int .u32 0, .int .u32 0, .int .u32 0, .int .u32 0, .int .u32 0, .int .u32 0, .int .u32 0, .int .u32 0, .int .u32 0, .int .u32 0, .int .u32 0, .int .u32 0, .int .u32 0, .int .u32 0, .int .u32 0, .int .u32 0, .int .u32 0])) := by kernel_rfl
theorem row133 : RowT Tryz.prog 133 118 1 4 := ⟨sl133, ⟨_, z118, rfl, rfl⟩, by decide, by decide⟩
theorem row149 : RowT Tryz.prog 149 22 1 24 := ⟨sl149, ⟨_, z22, rfl, rfl⟩, by decide, by decide⟩
theorem f68_0 : fieldOf Tryz.prog 68 0 = some 0 := by kernel_rfl
theorem f68_1 : fieldOf Tryz.prog 68 1 = some 1 := by kernel_rfl
theorem f68_2 : fieldOf Tryz.prog 68 2 = some 2 := by kernel_rfl
theorem f68_3 : fieldOf Tryz.prog 68 3 = some 3 := by kernel_rfl
theorem f82_0 : fieldOf Tryz.prog 82 0 = some 0 := by kernel_rfl
theorem f82_1 : fieldOf Tryz.prog 82 1 = some 1 := by kernel_rfl
theorem f124_0 : fieldOf Tryz.prog 124 0 = some 0 := by kernel_rfl
theorem f124_1 : fieldOf Tryz.prog 124 1 = some 8 := by kernel_rfl
theorem f124_2 : fieldOf Tryz.prog 124 2 = some 9 := by kernel_rfl
theorem bt68 : builtT Tryz.prog 68 = some ([.string ⟨#[]⟩, .int .i64 0, .int .i64 0, .int .i64 0], [(0, 1), (1, 1), (2, 1), (3, 1)]) := by kernel_rfl
theorem bt124 : builtT Tryz.prog 124 = some ([.int .u32 0, .int .u32 0, .int .u32 0, .int .u32 0, .int .u32 0, .int .u32 0, .int .u32 0, .int .u32 0, .slice none 0 0, .int .u64 0], [(0, 8), (8, 1), (9, 1)]) := by kernel_rfl
theorem st68 : ∃ fs, Tryz.prog.underlying 68 = some (.struct fs) := ⟨_, Tryz.underlying68⟩
theorem sz68 : (Tryz.prog.info? 68).map (·.size) = some 4 := by kernel_rfl
end Go.Proofs.YtgmfgmbgmjbdhaaGreatDoor
end
section
namespace Go.Proofs.YtgmfgmbgmjbdhaaGreatDoor
open Go Go.RowKit Go.Eng
set_option linter.unusedSimpArgs false
set_option linter.unusedVariables false
set_option maxRecDepth 100000
set_option maxHeartbeats 4000000
/-- One byte. -/
def byteB (c : Int) : ByteArray := ⟨#[UInt8.ofNat c.toNat]⟩
theorem strRows_app (a b : ByteArray) : strRows (a ++ b) = strRows a ++ strRows b := by
  unfold strRows
  rw [← List.map_append]
  congr 1
theorem byteB_size (c : Int) : (byteB c).size = 1 := rfl
theorem strRows_byte {c : Int} (h0 : 0 ≤ c) (h1 : c < 256) : strRows (byteB c) = [[.v (.int .u8 c)]] := by
  unfold strRows byteB
  simp only [List.map_cons, List.map_nil]
  have e : (((UInt8.ofNat c.toNat).toNat : Nat) : Int) = c := by
    rw [UInt8.toNat_ofNat', Nat.mod_eq_of_lt (by omega)]; omega
  rw [e]
theorem app_size (a b : ByteArray) : (a ++ b).size = a.size + b.size := by simp
/-- A builder at p, its bytes in the row r. -/
def bld (p r : Nat) (a : AV) (s : ByteArray) : List (Nat × Ob) := [(r, .row 5 1 (strRows s)), (p, .box 82 [a, .own r 0 s.size 1])]
/-- What a builder's first cell may be. -/
def Adr (p : Nat) (a : AV) : Prop := a = .v (.pointer none) ∨ a = .ptr p 0
/-- A builder that holds so much. -/
def BldR (p : Nat) (s : ByteArray) (u v : AV) (news : List (Nat × Ob)) : Prop := v = u ∧ ∃ r, news = bld p r (.ptr p 0) s
theorem copyCheck_spec (p r : Nat) (a : AV) (ha : Adr p a) (s : ByteArray) (G : Hp) (hd : Dist G (bld p r a s)) : ACall Tryz.prog 119 [.ptr p 0] (extH G (bld p r a s)) (fun u H' => ∃ news, Dist G news ∧ H' = extH G news ∧ (u = .tup [] ∧ news = bld p r (.ptr p 0) s)) := by
  unfold bld at hd ⊢
  have hd2 : Dist G [(r, .row 5 1 (strRows s)), (p, .box 82 [.ptr p 0, .own r 0 s.size 1])] := hd.set_ (k := 1) _ rfl |>.2
  rcases ha with rfl | rfl
  · refine UCall (n := 20) (H0 := G) (objs := [(r, .row 5 1 (strRows s)), (p, .box 82 [.v (.pointer none), .own r 0 s.size 1])]) Tryz.func119 (by kernel_rfl) rfl (by rw [Tryz.ntmps119]; rfl) hd <| ?_
    refine Q.rg <| Q.mv rfl <| S.qu (Z.nck rfl) <| Q.fa f82_0 rfl <| Q.lc 1 ty80 rfl rfl rfl <| S.qu (Z.pnt Tryz.underlying80 rfl) <| Q.nt <| S.cT rfl rfl <| S.rg <| Q.mv rfl <| Q.mv rfl <| S.qu (Z.tou 1 Tryz.underlying80 Tryz.underlying147 rfl rfl (by simp)) <| ?_
    refine S.qu (Z.nox Tryz.func139 rfl rfl) <| S.qu (Z.fru 1 Tryz.underlying147 Tryz.underlying80 rfl rfl rfl) <| S.qu (Z.nck rfl) <| Q.fa f82_0 rfl <| S.s <| D.st 1 ty80 rfl rfl rfl rfl rfl rfl rfl rfl fun _ => US.nil <| ?_
    exact retN [_, _] (fun _ => res_none rfl) (.refl _) fun hd => ⟨_, hd, rfl, rfl, rfl⟩
  · refine UCall (n := 20) (H0 := G) (objs := [(r, .row 5 1 (strRows s)), (p, .box 82 [.ptr p 0, .own r 0 s.size 1])]) Tryz.func119 (by kernel_rfl) rfl (by rw [Tryz.ntmps119]; rfl) hd <| ?_
    refine Q.rg <| Q.mv rfl <| S.qu (Z.nck rfl) <| Q.fa f82_0 rfl <| Q.lc 1 ty80 rfl rfl rfl <| S.qu (Z.pnf Tryz.underlying80 rfl) <| Q.nt <| S.cF rfl rfl <| Q.rg <| Q.mv rfl <| S.qu (Z.nck rfl) <| Q.fa f82_0 rfl <| Q.lc 1 ty80 rfl rfl rfl <| Q.mv rfl <| S.qu (Z.pne Tryz.underlying80 rfl rfl) <| Q.nt <| S.cF rfl rfl <| UW.skip <| ?_
    exact retN [_, _] (fun _ => res_none rfl) (.refl _) fun hd => ⟨_, hd, rfl, rfl, rfl⟩
theorem writeByte_spec (p r : Nat) (a : AV) (ha : Adr p a) (s : ByteArray) (hs : s.size ≤ 100000000000000) (c : Int) (h0 : 0 ≤ c) (h1 : c < 256) (G : Hp) (hd : Dist G (bld p r a s)) : ACall Tryz.prog 84 [.ptr p 0, .v (.int .u8 c)] (extH G (bld p r a s)) (fun u H' => ∃ news, Dist G news ∧ H' = extH G news ∧ BldR p (s ++ byteB c) (.v .nilIface) u news) := by
  have hcc := fun G hd => copyCheck_spec p r a ha s G hd
  have hl := strRows_len s
  have hrw : (strRows s).take s.size ++ [[.v (.int .u8 c)]] = strRows (s ++ byteB c) := by rw [strRows_app, strRows_byte h0 h1, List.take_of_length_le (by omega)]
  have hsz : s.size + 1 = (s ++ byteB c).size := by rw [app_size, byteB_size]
  unfold bld at hd hcc ⊢
  refine UCall (n := 17) (H0 := G) (objs := [(r, .row 5 1 (strRows s)), (p, .box 82 [a, .own r 0 s.size 1])]) Tryz.func84 (by kernel_rfl) rfl (by rw [Tryz.ntmps84]; rfl) hd <| ?_
  refine Q.rg <| Q.as rfl <| Q.nt <| Q.rg <| Q.mv rfl <| S.dd <| D.co (.cons 0 rfl (.cons 0 rfl .nil)) rfl rfl (fun G hD => hcc G hD) <| ?_
  rintro _ _ ⟨rfl, rfl⟩
  refine Q.nt <| Q.rg <| Q.mv rfl <| Q.mv rfl <| S.qu (Z.nck rfl) <| Q.fa f82_1 rfl <| Q.lc 1 ty22 rfl rfl rfl <| Q.mv rfl <| S.qu (Z.bl row22 rfl rfl (lit_ok rfl)) <| S.dd <| D.ap 0 row22 rfl rfl (by omega) rfl (.sl (lit_sz rfl)) (by first | omega | (simp; omega)) hrw fun p14 => ?_
  refine S.qu (Z.nck rfl) <| Q.fa f82_1 rfl <| S.s <| D.st 1 ty22 rfl rfl rfl rfl rfl rfl rfl rfl fun _ => Q.nt <| Q.rg <| Q.as rfl <| Q.nt <| UW.ret <| ?_
  exact retR [_, _] (fun _ => res_tmp rfl rfl) (.refl _) fun hd => ⟨_, hd, rfl, rfl, _, by unfold bld; rw [← hsz]; rfl⟩
theorem writeString_spec (p r : Nat) (a : AV) (ha : Adr p a) (s : ByteArray) (hs : s.size ≤ 100000000000000) (t : ByteArray) (ht : t.size ≤ 10000000000000) (G : Hp) (hd : Dist G (bld p r a s)) : ACall Tryz.prog 114 [.ptr p 0, .v (.string t)] (extH G (bld p r a s)) (fun u H' => ∃ news, Dist G news ∧ H' = extH G news ∧ BldR p (s ++ t) (.tup [.v (.int .i64 (t.size : Int)), .v .nilIface]) u news) := by
  have hcc := fun G hd => copyCheck_spec p r a ha s G hd
  have hl := strRows_len s
  have hrw : (strRows s).take s.size ++ strRows t = strRows (s ++ t) := by rw [strRows_app, List.take_of_length_le (by omega)]
  have hsz : s.size + t.size = (s ++ t).size := by rw [app_size]
  unfold bld at hd hcc ⊢
  refine UCall (n := 19) (H0 := G) (objs := [(r, .row 5 1 (strRows s)), (p, .box 82 [a, .own r 0 s.size 1])]) Tryz.func114 (by kernel_rfl) rfl (by rw [Tryz.ntmps114]; rfl) hd <| ?_
  refine Q.rg <| Q.as rfl <| Q.as rfl <| Q.nt <| Q.rg <| Q.mv rfl <| S.dd <| D.co (.cons 0 rfl (.cons 0 rfl .nil)) rfl rfl (fun G hD => hcc G hD) <| ?_
  rintro _ _ ⟨rfl, rfl⟩
  refine Q.nt <| Q.rg <| Q.mv rfl <| Q.mv rfl <| S.qu (Z.nck rfl) <| Q.fa f82_1 rfl <| Q.lc 1 ty22 rfl rfl rfl <| Q.mv rfl <| S.dd <| D.aps 0 row22 z5 Tryz.underlying9 rfl rfl (by omega) rfl (by omega) hrw fun p14 => S.qu (Z.nck rfl) <| Q.fa f82_1 rfl <| S.s <| D.st 1 ty22 rfl rfl rfl rfl rfl rfl rfl rfl fun _ => Q.nt <| Q.rg <| Q.mv rfl <| S.qu (Z.lnt Tryz.underlying9 rfl) <| Q.as rfl <| Q.as rfl <| Q.nt <| UW.ret <| ?_
  exact retR [_, _] (fun hd => res_two rfl (res1_tmp rfl) (res1_tmp rfl)) (.refl _) fun hd => ⟨_, hd, rfl, rfl, _, by unfold bld; rw [← hsz]⟩
theorem bldString_spec (p r : Nat) (a : AV) (s : ByteArray) (hs : 0 < s.size) (hm : s.size ≤ 100000000000000) (G : Hp) (hd : Dist G (bld p r a s)) : ACall Tryz.prog 85 [.ptr p 0] (extH G (bld p r a s)) (fun u H' => ∃ news, Dist G news ∧ H' = extH G news ∧ (u = .v (.string s) ∧ news = [])) := by
  have hl := strRows_len s
  unfold bld at hd ⊢
  refine UCall (n := 14) (H0 := G) (objs := [(r, .row 5 1 (strRows s)), (p, .box 82 [a, .own r 0 s.size 1])]) Tryz.func85 (by kernel_rfl) rfl (by rw [Tryz.ntmps85]; rfl) hd <| ?_
  refine Q.rg <| Q.as rfl <| Q.nt <| S.sq <| ?_
  refine' UW.drawk (by kernel_rfl) [1] [0, 1, 3, 7, 15, 0, 32, 96, 224, 480, 1023, 2047] [some 3, some 4, some 5, some 6, none, some 8, some 9, some 10, some 11, some 12, none, none] [some (3, _), some (4, _), some (5, _), some (6, _), none, some (8, _), some (9, _), some (10, _), some (11, _), some (12, _), none, none] [4, 10, 11] [3] rfl (by decide) (by decide) (QAll.free (by decide) rfl rfl ?q4x0_0 (QAll.free (by decide) rfl rfl ?q4x0_1 (QAll.free (by decide) rfl rfl ?q4x0_2 (QAll.held (by decide) rfl rfl ?q4x0_3 (QAll.skip (QAll.free (by decide) rfl rfl ?q4x0_5 (QAll.free (by decide) rfl rfl ?q4x0_6 (QAll.free (by decide) rfl rfl ?q4x0_7 (QAll.kept (by decide) rfl rfl ?q4x0_8 (QAll.free (by decide) rfl rfl ?q4x0_9 (QAll.skip (QAll.skip QAll.nil)))))))))))) ?q4x0_k
  case q4x0_0 => (intro _; exact Z.mv rfl)
  case q4x0_1 => (intro _; exact Z.nck rfl)
  case q4x0_2 => (intro _; exact Z.fa f82_1 rfl)
  case q4x0_3 => exact Z.ldc 1 ty22 rfl rfl rfl
  case q4x0_5 => (intro _; exact Z.mv rfl)
  case q4x0_6 => (intro _; exact Z.nck rfl)
  case q4x0_7 => (intro _; exact Z.fa f82_1 rfl)
  case q4x0_8 => (intro _ hK; exact Z.kc 0 hK ty22 rfl rfl rfl)
  case q4x0_9 => (intro _; exact Z.lno sl22 rfl)
  refine CH.cons rfl rfl (by decide) ?_ (.c 1 rfl .n)
  refine D.qu (Z.usd 0 rfl rfl (by omega)) <| ?_
  refine CH.cons rfl rfl (by decide) ?_ (.c 1 rfl .n)
  refine D.ust 0 Tryz.underlying117 (by kernel_rfl) rfl rfl rfl (by omega) (by omega) <| ?_
  refine CH.cons rfl rfl (by decide) ?_ (.c 0 rfl .n)
  refine D.qu (Z.as rfl) <| ?_
  refine CH.nil ?_ (.c 0 rfl .n)
  simp only [app, finL]
  refine UQ.then <| UW.ret <| ?_
  exact retR [] (fun _ => res_tmp rfl rfl) (List.nil_sublist _) fun hd => ⟨[], .nil, rfl, rfl, rfl⟩
end Go.Proofs.YtgmfgmbgmjbdhaaGreatDoor
end
