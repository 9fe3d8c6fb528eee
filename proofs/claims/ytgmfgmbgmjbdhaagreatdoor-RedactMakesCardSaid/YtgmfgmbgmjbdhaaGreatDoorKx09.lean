/- The engine, eleventh part: rows written in place: append within the row, clear, parts beyond the length; what lies in the heap that a call came upon. · The engine, twelfth part: a walk over a string's runes, parts of a tuple, a comparison without a body. -/
import Derived.Test.YtgmfgmbgmjbdhaaGreatDoorKx08
import Derived.Laws.RangeAny
import Derived.Lib.Bytealg
section
set_option linter.unusedVariables false
set_option linter.unusedSimpArgs false
namespace Go.Eng
open Go Go.RowKit
set_option linter.unusedSectionVars false
variable [Rd]
theorem setL_splice {α : Type} (l us : List α) (off : Nat) (h : off + us.length ≤ l.length) : setL l off us = l.take off ++ us ++ l.drop (off + us.length) := by
  apply List.ext_getElem?
  intro j
  rw [setL_get, List.append_assoc]
  by_cases h1 : j < off
  · rw [if_neg (by omega), List.getElem?_append_left (by rw [List.length_take]; omega), List.getElem?_take, if_pos h1]
  · rw [List.getElem?_append_right (by rw [List.length_take]; omega), List.length_take, Nat.min_eq_left (by omega)]
    by_cases h2 : j < off + us.length
    · rw [if_pos (by omega), List.getElem?_append_left (by omega)]
    · rw [if_neg (by omega), List.getElem?_append_right (by omega), List.getElem?_drop]
      congr 1; omega
theorem flatten_splice {α : Type} (sz : Nat) (rows news : List (List α)) (p : Nat) (h : ∀ cs ∈ rows, cs.length = sz) (hn : ∀ cs ∈ news, cs.length = sz) (hle : p + news.length ≤ rows.length) :
    (rows.take p ++ news ++ rows.drop (p + news.length)).flatten = setL rows.flatten (p * sz) news.flatten := by
  have e1 := flatten_len sz rows h
  have e2 := flatten_len sz news hn
  rw [setL_splice _ _ _ (by rw [e1, e2, ← Nat.add_mul]; exact Nat.mul_le_mul_right _ hle), List.flatten_append, List.flatten_append, flatten_take sz _ _ h, flatten_drop sz _ _ h, e2, Nat.add_mul]
section
variable {P : Program} {n : Nat} {T : Sl} {H : Hp} {ops : Array Oper} {o : Oper} {K : AV → Hp → Prop}
/-- A row after the cells from p on are others. -/
theorem obrel_splice {ρ ρ' : Rho} {H' : Hp} {w w' : World} {v : Value} {e sz p : Nat} {rows news : List (List AV)} {nv : List Value} {g cap : Nat} {cur : Array Value} {inner : List Value}
    (hz : 0 < sz) (hl : ∀ cs ∈ rows, cs.length = sz) (hn : ∀ cs ∈ news, cs.length = sz) (hle : p + news.length ≤ rows.length) (hv : v = .slice (some ⟨g, 0, none⟩) rows.length cap)
    (h5 : rows.length ≤ cap) (h6 : cap ≤ maxLen) (h7 : cur.size = cap * sz) (h8 : cur.toList.take (rows.length * sz) = inner) (hil : inner.length = rows.length * sz) (hc : RepCells (okOf ρ H) ρ w rows.flatten inner) (hnv : RepCells (okOf ρ H) ρ w news.flatten nv)
    (hw : w'.heap[g]? = some (.cells (setL cur.toList (p * sz) nv).toArray e (0, 0))) (e' : Ext ρ H w ρ' H' w') : ObRel (okOf ρ' H') ρ' w' v (.row e sz (rows.take p ++ news ++ rows.drop (p + news.length))) := by
  have hlen : (rows.take p ++ news ++ rows.drop (p + news.length)).length = rows.length := by simp; omega
  have hnl : nv.length = news.length * sz := by rw [← hnv.1, flatten_len sz _ hn]
  refine ⟨hz, setL inner (p * sz) nv, ⟨by rw [setL_length, hlen]; exact hil, .inr ⟨g, cap, _, by rw [hlen]; exact hv, Nat.zero_le _, hw, by rw [hlen]; exact h5, h6, by simp [setL_length, h7], ?_⟩⟩, fun cs hcs => ?_, ?_⟩
  · rw [hlen]
    show (setL cur.toList _ nv).take _ = _
    rw [setL_take _ _ _ _ (by rw [hnl, ← Nat.add_mul]; exact Nat.mul_le_mul_right _ hle), h8]
  · rcases List.mem_append.1 hcs with hcs | hcs
    · rcases List.mem_append.1 hcs with hcs | hcs
      · exact hl cs (List.mem_of_mem_take hcs)
      · exact hn cs hcs
    · exact hl cs (List.mem_of_mem_drop hcs)
  · rw [flatten_splice sz rows news p hl hn hle]
    exact e'.cells (repcells_setL hc hnv _)
theorem Does.append_in {t e sz b : Nat} {s x : Operand} {id len : Nat} {rows news : List (List AV)} (hg : o.guard = none) (ho : o.op = .call { callee := .builtin .append, args := #[s, x], argTypes := #[t, t] }) (ht : RowT P t e sz b)
    (hs : ev T s = .own id 0 len sz) (h2 : H id = some (.row e sz rows)) (hle : len + news.length ≤ rows.length) (hx : Src H sz (ev T x) news)
    (hk : K (.own id 0 (len + news.length) sz) (set H id (some (.row e sz (rows.take len ++ news ++ rows.drop (len + news.length)))))) : Does P n ops o T H K := by
  intro a w ρ h1 hd h3 h4 N Q hN
  rw [if_pos (by simp [Region.wanted, hg])]
  have hr := ev_rep h4
  have h5 := hr s
  rw [hs] at h5
  obtain ⟨v0, hv0, hz, inner, how, hl, hc⟩ := h3.ob _ _ h2
  obtain ⟨nv, hnv, hnl, hh⟩ := src_run ht.sz h3 hx (hr x)
  have hn := src_len h3 hx
  obtain ⟨hu, he, i, hi, hsi, hbi⟩ := slT_some ht.sl
  have hil : inner.length = rows.length * sz := how.1
  generalize hss : a.eval s = ss at h5
  cases h5 with
  | ownE _ _ _ g m c o' c' hv h0 _ => exact absurd rfl h0
  | own0 _ _ hv =>
    rw [hv0] at hv
    cases hv
    have hr0 : rows.length = 0 := by
      rcases how.2 with ⟨_, h⟩ | ⟨g, cap, cur, h, _⟩
      · exact h
      · cases h
    have hrn : rows = [] := List.eq_nil_of_length_eq_zero hr0
    have hnn : news = [] := List.eq_nil_of_length_eq_zero (by omega)
    subst hrn hnn
    have hrun : (Builtin.append_ #[t, t] o.type #[a.eval s, a.eval x]).run P w = .ok (.slice none 0 0) w := by
      rw [hss]
      rcases hh with ⟨hxx, _⟩ | ⟨ad, c, hxx, _⟩
      · rw [hxx]; exact run_append_owned_none (P := P) (w := w) 0 t o.type e i sz hu hi _ 0 [] ⟨by simp, .inl ⟨rfl, rfl⟩⟩
      · rw [hxx]
        simp [Builtin.append_, run_underlying hu, sizeOf, typeInfo, hi, Builtin.lenOf, Builtin.firstCells, storeCells, loadCells, go_sem]
    unfold Oper.wp
    rw [run_op_append ho hrun]
    have hset : set H id (some (.row e sz [])) = H := by
      funext j
      by_cases hj : j = id
      · subst hj; rw [set_self, h2]
      · rw [set_ne _ _ hj]
    refine hN _ w ρ _ _ h3 (Ext.refl _ _ _) (.own0 id sz hv0) ?_
    have := hk
    simp only [List.take_nil, List.nil_append, List.drop_nil, List.length_nil] at this
    rw [hset] at this
    exact this
  | own _ _ _ _ g m cap hv hle' hmax =>
    rw [hv0] at hv
    cases hv
    rcases how.2 with ⟨h6, _⟩ | ⟨g', cap', cur, h6, _, hg', h7, h8, h9, h10⟩
    · cases h6
    · cases h6
      have hfit : len * sz + nv.length ≤ cur.size := by rw [hnl, h9, ← Nat.add_mul]; exact Nat.mul_le_mul_right _ (by omega)
      have hcur : setL cur.toList (len * sz) nv = cur.toList.take (len * sz) ++ nv ++ cur.toList.drop (len * sz + nv.length) := setL_splice _ _ _ (by simpa using hfit)
      have hrun : ∃ w', (Builtin.append_ #[t, t] o.type #[a.eval s, a.eval x]).run P w = .ok (.slice (some ⟨g, 0, none⟩) (len + news.length) cap) w' ∧ w'.heap[g]? = some (.cells (setL cur.toList (len * sz) nv).toArray e (0, 0)) ∧ w'.heap.size = w.heap.size ∧ (∀ k, k ≠ g → w'.heap[k]? = w.heap[k]?) ∧ w'.os = w.os ∧ w'.tape = w.tape ∧ w'.output = w.output := by
        rw [hss]
        simp only [Nat.zero_mul, Nat.sub_zero]
        rcases hh with ⟨hxx, hnn⟩ | ⟨ad, c, hxx, hcell⟩
        · subst hnn
          have hnv0 : nv = [] := List.eq_nil_of_length_eq_zero (by simpa using hnl)
          subst hnv0
          refine ⟨w, ?_, by simpa [setL] using hg', rfl, fun _ _ => rfl, rfl, rfl, rfl⟩
          rw [hxx]
          have hcut : w.ownsRow 0 e sz (.slice (some ⟨g, 0, none⟩) len cap) len (inner.take (len * sz)) := ⟨by rw [List.length_take, hil, Nat.min_eq_left (Nat.mul_le_mul_right _ (by omega))], .inr ⟨g, cap, cur, rfl, Nat.zero_le _, hg', by omega, h8, h9, by rw [← h10, List.take_take, Nat.min_eq_left (Nat.mul_le_mul_right _ (by omega))]⟩⟩
          exact run_append_owned_none (P := P) (w := w) 0 t o.type e i sz hu hi _ len _ hcut
        · rw [hxx]
          refine ⟨_, run_append_room (P := P) w t o.type e i hu hi g len cap cur hg' ad news.length c nv (by rw [hsi]; exact hnl) hcell (fun y hy => by
            obtain ⟨j, hj⟩ := List.getElem?_of_mem hy
            have hlt : j < news.flatten.length := by rw [hnv.1]; exact (List.getElem?_eq_some_iff.1 hj).1
            exact (hnv.2 j _ y (List.getElem?_eq_getElem hlt) hj).2) (by omega) (by rw [hsi]; exact hfit), ?_, by simp [World.setRow], fun k hk => setRow_other w g k _ hk, rfl, rfl, rfl⟩
          rw [hsi, hcur]
          exact setRow_heap w g cur _ e _ hg'
      obtain ⟨w', hrun, q1, q2, q3, q4, q5, q6⟩ := hrun
      unfold Oper.wp
      rw [run_op_append ho hrun]
      have := h3.write (.row e sz (rows.take len ++ news ++ rows.drop (len + news.length))) h2 hv0 q4 q5 q6 (by rw [q2]; exact Nat.le_refl _) (fun k _ hk => q3 k (fun e => hk (by rw [e]; rfl))) (fun ρ' H' e' _ => obrel_splice hz hl hn hle rfl h7 h8 h9 h10 hil hc hnv q1 e')
      refine hN _ w' ρ _ _ this.1 this.2 ?_ hk
      have h11 := Rep.own (ok := okOf ρ (set H id (some (.row e sz (rows.take len ++ news ++ rows.drop (len + news.length)))))) (w := w') id 0 (len + news.length) sz g rows.length cap hv0 (by omega) h8
      simpa using h11
/-- A part that may reach beyond the length, within the row. -/
theorem Does.slice_ext {t e s b : Nat} {x y z : Operand} {id len l h : Nat} {ki kj : IntKind} {rows : List (List AV)} (hg : o.guard = none) (ho : o.op = .slice t x (some y) (some z) none) (ht : slT P t = some (e, s, b)) (hx : ev T x = .own id 0 len s) (h2 : H id = some (.row e s rows))
    (hy : ev T y = .v (.int ki (l : Int))) (hz : ev T z = .v (.int kj (h : Int))) (h1 : l ≤ h) (hh : h ≤ rows.length) (hk : K (.own id l (h - l) s) H) : Does P n ops o T H K := by
  refine Does.val _ hg (fun a w ρ hrel hr => ?_) hk
  have h3 := hr x
  rw [hx] at h3
  obtain ⟨v0, hv0, hzz, inner, how, hl, hc⟩ := hrel.ob _ _ h2
  obtain ⟨hu, he, _⟩ := slT_some ht
  have hu' : P.underlying t = some (.slice (P.elem t)) := by rw [he]; exact hu
  have hsz : (sizeOf (P.elem t)).run P w = .ok s w := by rw [he]; exact slT_size ht w
  have h5 := hr y; rw [hy] at h5
  have h6 := hr z; rw [hz] at h6
  have key : ∀ A m cap, a.eval x = .slice A m cap → rows.length ≤ cap → Rep (okOf ρ H) ρ w (.own id 0 rows.length s) (.slice A rows.length cap) → ∃ y, (execOp a.eval o).run P w = .ok (.value y) w ∧ Rep (okOf ρ H) ρ w (.own id l (h - l) s) y := by
    intro A m cap hxx hcap hrep
    obtain ⟨A', m', cap', e1, e2, e3, e4⟩ := rep_own_sliced hrep h1 hh
    cases e1
    rw [Nat.zero_add] at e4
    refine ⟨_, run_op_slice ho (fun x => run_sliceAt_slice (P := P) (w := w) t x _ _ _ hu') ?_, e4⟩
    rw [hxx]
    simp only [Option.map_some, Option.map_none, rep_v h5, rep_v h6]
    rw [run_slice_lh (P := P) w t A m cap hu' ki kj l h (by omega) (by omega) (by omega), hsz]
    simp
  generalize hxx : a.eval x = xx at h3
  cases h3 with
  | ownE _ _ _ g m c o' c' hv h0 _ => exact absurd rfl h0
  | own0 _ _ hv =>
    rw [hv0] at hv
    cases hv
    have hr0 : rows.length = 0 := by
      rcases how.2 with ⟨_, h⟩ | ⟨g, cap, cur, h, _⟩
      · exact h
      · cases h
    refine key none 0 0 hxx (by omega) ?_
    rw [hr0]
    exact .own0 id s hv0
  | own _ _ _ _ g m cap hv hle' hmax =>
    rw [hv0] at hv
    cases hv
    rcases how.2 with ⟨h6, _⟩ | ⟨g', cap', cur, h6, _, hg', h7, h8, h9, h10⟩
    · cases h6
    · cases h6
      refine key _ len cap (by simpa using hxx) h7 ?_
      have := Rep.own (ok := okOf ρ H) (w := w) id 0 rows.length s g rows.length cap hv0 (by omega) h8
      simpa using this
/-- A part with its capacity: it is looked at, nothing more. -/
theorem Does.slice3_own {t e s b : Nat} {x y z v : Operand} {id len l h m : Nat} {ki kj km : IntKind} (hg : o.guard = none) (ho : o.op = .slice t x (some y) (some z) (some v)) (ht : slT P t = some (e, s, b)) (hx : ev T x = .own id 0 len s)
    (hy : ev T y = .v (.int ki (l : Int))) (hz : ev T z = .v (.int kj (h : Int))) (hm : ev T v = .v (.int km (m : Int))) (h1 : l ≤ h) (hh : h ≤ m) (hml : m ≤ len) (hk : K .any H) : Does P n ops o T H K := by
  refine Does.val _ hg (fun a w ρ hrel hr => ?_) hk
  have h3 := hr x
  rw [hx] at h3
  obtain ⟨hu, he, _⟩ := slT_some ht
  have hu' : P.underlying t = some (.slice (P.elem t)) := by rw [he]; exact hu
  have hsz : (sizeOf (P.elem t)).run P w = .ok s w := by rw [he]; exact slT_size ht w
  have h5 := hr y; rw [hy] at h5
  have h6 := hr z; rw [hz] at h6
  have h7 := hr v; rw [hm] at h7
  have key : ∀ A n cap, a.eval x = .slice A n cap → m ≤ cap → ∃ y, (execOp a.eval o).run P w = .ok (.value y) w ∧ Rep (okOf ρ H) ρ w .any y := by
    intro A n cap hxx hcap
    have hrun : (Instr.slice t (a.eval x) ((some y).map a.eval) ((some z).map a.eval) ((some v).map a.eval)).run P w = .ok (sliced A (l : Int).toNat (h : Int).toNat (m : Int).toNat s) w := by
      rw [hxx]
      simp only [Option.map_some, rep_v h5, rep_v h6, rep_v h7]
      rw [run_slice_lhm (P := P) w t A n cap hu' ki kj km l h m (by omega) (by omega) (by omega) (by omega), hsz]
      rfl
    exact ⟨_, run_op_slice ho (fun x => run_sliceAt_slice (P := P) (w := w) t x _ _ _ hu') hrun, .any _⟩
  generalize hxx : a.eval x = xx at h3
  cases h3 with
  | ownE _ _ _ g m c o' c' hv h0 _ => exact absurd rfl h0
  | own0 _ _ hv => exact key _ _ _ hxx (by omega)
  | own _ _ _ _ g m cap hv hle' hmax => exact key _ _ _ hxx (by omega)
theorem zeroCells_list (z : Array Value) (m : Nat) (hz : 0 < z.size) : (Builtin.zeroCells z m).toList = (List.replicate m z.toList).flatten := by
  apply List.ext_getElem?
  intro j
  have hfl : (List.replicate m z.toList).flatten.length = m * z.size := by simp
  by_cases hj : j < m * z.size
  · have hq : j / z.size < m := (Nat.div_lt_iff_lt_mul hz).2 hj
    have hr : j % z.size < z.size := Nat.mod_lt _ hz
    have hjj : j = j / z.size * z.size + j % z.size := by rw [Nat.mul_comm]; exact (Nat.div_add_mod j z.size).symm
    have h1 := flatten_get z.size hz (List.replicate m z.toList) (by intro cs hcs; rw [List.eq_of_mem_replicate hcs]; simp) (j / z.size) z.toList (j % z.size) (by rw [List.getElem?_replicate, if_pos hq]) hr
    rw [← hjj] at h1
    rw [h1]
    simp [Builtin.zeroCells, hj, hr]
  · rw [List.getElem?_eq_none (by rw [Array.length_toList, size_zeroCells]; omega), List.getElem?_eq_none (by rw [hfl]; omega)]
theorem Does.clear_own {t e sz b : Nat} {x : Operand} {id off len : Nat} {rows : List (List AV)} {z : Value} {zs : List AV} (hg : o.guard = none) (ho : o.op = .call { callee := .builtin .clear, args := #[x], argTypes := #[t] }) (ht : RowT P t e sz b)
    (hx : ev T x = .own id off len sz) (h2 : H id = some (.row e sz rows)) (hle : off + len ≤ rows.length) (hz0 : (P.info? e).map (·.zero) = some (some z)) (hzs : z.cells.toList.map AV.v = zs)
    (hk : K .any (set H id (some (.row e sz (rows.take off ++ List.replicate len zs ++ rows.drop (off + len)))))) : Does P n ops o T H K := by
  intro a w ρ h1 hd h3 h4 N Q hN
  rw [if_pos (by simp [Region.wanted, hg])]
  have hr := ev_rep h4
  have h5 := hr x
  rw [hx] at h5
  obtain ⟨v0, hv0, hz, inner, how, hl, hc⟩ := h3.ob _ _ h2
  obtain ⟨hu, he, i, hi, hsi, hbi⟩ := slT_some ht.sl
  obtain ⟨z', hz', hzsz, hzc⟩ := ht.zero
  rw [hz0] at hz'
  cases hz'
  have hil : inner.length = rows.length * sz := how.1
  have hop : ∀ {w'}, (Builtin.clear_ #[t] o.type #[a.eval x]).run P w = .ok (.tuple #[]) w' → (execOp a.eval o).run P w = .ok (.value (.tuple #[])) w' := by
    intro w' h
    unfold execOp
    rw [ho]
    simp only [resolve, List.map_toArray, List.map_cons, List.map_nil, Sem.run_bind, Sem.run_pure, Result.andThen_ok, invoke, builtin, h]
  have hzl : ∀ cs ∈ List.replicate len zs, cs.length = sz := fun cs hcs => by rw [List.eq_of_mem_replicate hcs, ← hzs]; simpa using hzsz
  have same : len = 0 → (Builtin.clear_ #[t] o.type #[a.eval x]).run P w = .ok (.tuple #[]) w → (match (execOp a.eval o).run P w with | _ => o.wp P a w N Q) := by
    intro hl0 hrun
    subst hl0
    show o.wp P a w N Q
    unfold Oper.wp
    rw [hop hrun]
    have hset : set H id (some (.row e sz (rows.take off ++ List.replicate 0 zs ++ rows.drop (off + 0)))) = H := by
      funext j
      by_cases hj : j = id
      · subst hj; rw [set_self, h2]; simp
      · rw [set_ne _ _ hj]
    rw [hset] at hk
    exact hN _ w ρ _ _ h3 (Ext.refl _ _ _) (.any _) hk
  generalize hss : a.eval x = ss at h5
  cases h5 with
  | ownE _ _ _ g m c o' c' hv h0 _ => exact same rfl (by rw [hss]; simp [Builtin.clear_, run_underlying hu])
  | own0 _ _ hv => exact same rfl (by rw [hss]; simp [Builtin.clear_, run_underlying hu])
  | own _ _ _ _ g m cap hv hle' hmax =>
    cases hlen : len with
    | zero => subst hlen; exact same rfl (by rw [hss]; simp [Builtin.clear_, run_underlying hu])
    | succ len' =>
    rw [hv0] at hv
    cases hv
    rcases how.2 with ⟨h6, _⟩ | ⟨g', cap', cur, h6, _, hg', h7, h8, h9, h10⟩
    · cases h6
    · cases h6
      have hzv : (zeroValue e).run P w = .ok z w := by
        obtain ⟨i', hi', hz'⟩ := Option.map_eq_some_iff.1 hz0
        simp [zeroValue, typeInfo, hi', hz', go_sem]
      have hzl2 : (Builtin.zeroCells z.cells (len' + 1)).toList = (List.replicate (len' + 1) z.cells.toList).flatten := zeroCells_list _ _ (by rw [hzsz]; exact hz)
      have hnl : (Builtin.zeroCells z.cells (len' + 1)).toList.length = (len' + 1) * sz := by rw [Array.length_toList, size_zeroCells, hzsz]
      have hfit : off * sz + 0 + (Builtin.zeroCells z.cells (len' + 1)).toList.length ≤ cur.size := by rw [hnl, h9, Nat.add_zero, ← Nat.add_mul]; exact Nat.mul_le_mul_right _ (by omega)
      obtain ⟨w', hw', hwr⟩ := run_storeL (P := P) g e (off * sz) (Builtin.zeroCells z.cells (len' + 1)).toList 0 w cur hg' hfit (fun v hv => by
        rw [hzl2] at hv
        obtain ⟨cs, hcs, hv⟩ := List.mem_flatten.1 hv
        rw [List.eq_of_mem_replicate hcs] at hv
        exact List.all_eq_true.1 hzc v hv)
      have hrun : (Builtin.clear_ #[t] o.type #[a.eval x]).run P w = .ok (.tuple #[]) w' := by
        rw [hss, hlen]
        simp [Builtin.clear_, run_underlying hu, hzv, hw']
      unfold Oper.wp
      rw [hop hrun]
      have hat := hwr.at_
      rw [Nat.add_zero] at hat
      have hzcells : RepCells (okOf ρ H) ρ w (List.replicate len zs).flatten (Builtin.zeroCells z.cells (len' + 1)).toList := by
        rw [hzl2, hlen, ← hzs]
        have hmap : (List.replicate (len' + 1) (z.cells.toList.map AV.v)).flatten = ((List.replicate (len' + 1) z.cells.toList).flatten).map AV.v := by
          rw [List.map_flatten, List.map_replicate]
        rw [hmap]
        refine ⟨by simp, fun j u y hu hy => ?_⟩
        rw [List.getElem?_map, hy] at hu
        cases hu
        refine ⟨.v y, ?_⟩
        have hm := List.mem_of_getElem? hy
        obtain ⟨cs, hcs, hm⟩ := List.mem_flatten.1 hm
        rw [List.eq_of_mem_replicate hcs] at hm
        exact List.all_eq_true.1 hzc y hm
      have hkk := hk
      have e1 : (List.replicate len zs).length = len := List.length_replicate
      have := h3.write (.row e sz (rows.take off ++ List.replicate len zs ++ rows.drop (off + len))) h2 hv0 hwr.os hwr.tape hwr.output (by rw [hwr.size]; exact Nat.le_refl _) (fun k _ hk => hwr.block k (fun e => hk (by rw [e]; rfl))) (fun ρ' H' e' _ => by
        have := obrel_splice (p := off) (news := List.replicate len zs) hz hl hzl (by rw [e1]; exact hle) rfl h7 h8 h9 h10 hil hc hzcells hat e'
        rw [e1] at this; exact this)
      exact hN _ w' ρ _ _ this.1 this.2 (.any _) hkk
end
section
variable {P : Program} {n : Nat} {Q : AEx → Sl → Hp → Prop} {H0 : Hp} {c : Code} {l : List (Nat × AV)} {objs : List (Nat × Ob)} {ops : Array Oper} {rest : List Oper} {o : Oper}
variable {d : Nat} {x y z : Operand} {u : AV} {t e sz b : Nat} {id k : Nat} {ob : Ob} {cells : List AV} {rows : List (List AV)} {K : AV → List (Nat × Ob) → Prop}
theorem DS.append_in {s : Operand} {len : Nat} {news rs : List (List AV)} {objs' : List (Nat × Ob)} (hg : o.guard = none) (ho : o.op = .call { callee := .builtin .append, args := #[s, x], argTypes := #[t, t] }) (ht : RowT P t e sz b)
    (hs : evO l s = some (.own id 0 len sz)) (h2 : objs[k]? = some (id, .row e sz rows)) (hx : evO l x = some u) (hsrc : SrcO objs sz u news) (hle : len + news.length ≤ rows.length) (hr : rows.take len ++ news ++ rows.drop (len + news.length) = rs) (hob : objs.set k (id, .row e sz rs) = objs')
    (hk : K (.own id 0 (len + news.length) sz) objs') : DS P n ops H0 o l objs K := by
  subst hr hob
  exact fun hdist => Does.append_in hg ho ht (ev_of hs) (hdist.at_ h2) hle (by rw [ev_of hx]; exact hsrc.to hdist) ⟨_, (hdist.set_ _ h2).1, (hdist.set_ _ h2).2, hk⟩
theorem DS.slice_ext {len i j : Nat} {ki kj : IntKind} (hg : o.guard = none) (ho : o.op = .slice t x (some y) (some z) none) (ht : slT P t = some (e, sz, b)) (hx : evO l x = some (.own id 0 len sz)) (h2 : objs[k]? = some (id, .row e sz rows))
    (hy : evO l y = some (.v (.int ki (i : Int)))) (hz : evO l z = some (.v (.int kj (j : Int)))) (h1 : i ≤ j) (hh : j ≤ rows.length) (hk : K (.own id i (j - i) sz) objs) : DS P n ops H0 o l objs K :=
  fun hdist => Does.slice_ext hg ho ht (ev_of hx) (hdist.at_ h2) (ev_of hy) (ev_of hz) h1 hh ⟨objs, rfl, hdist, hk⟩
theorem US.slice_ext {len i j : Nat} {ki kj : IntKind} (hd : o.dst = some d) (hn : d < n) (hg : o.guard = none) (ho : o.op = .slice t x (some y) (some z) none) (ht : slT P t = some (e, sz, b)) (hx : evO l x = some (.own id 0 len sz)) (h2 : objs[k]? = some (id, .row e sz rows))
    (hy : evO l y = some (.v (.int ki (i : Int)))) (hz : evO l z = some (.v (.int kj (j : Int)))) (h1 : i ≤ j) (hh : j ≤ rows.length) (hk : US P n ops Q H0 rest ((d, .own id i (j - i) sz) :: l) objs) : US P n ops Q H0 (o :: rest) l objs :=
  US.step hd hn (DS.slice_ext hg ho ht hx h2 hy hz h1 hh hk)
theorem DS.clear {off len : Nat} {zv : Value} {zs : List AV} {rs : List (List AV)} {objs' : List (Nat × Ob)} (hg : o.guard = none) (ho : o.op = .call { callee := .builtin .clear, args := #[x], argTypes := #[t] }) (ht : RowT P t e sz b)
    (hx : evO l x = some (.own id off len sz)) (h2 : objs[k]? = some (id, .row e sz rows)) (hle : off + len ≤ rows.length) (hz0 : (P.info? e).map (·.zero) = some (some zv)) (hzs : zv.cells.toList.map AV.v = zs) (hr : rows.take off ++ List.replicate len zs ++ rows.drop (off + len) = rs) (hob : objs.set k (id, .row e sz rs) = objs')
    (hk : ∀ u, K u objs') : DS P n ops H0 o l objs K := by
  subst hr hob
  exact fun hdist => Does.clear_own hg ho ht (ev_of hx) (hdist.at_ h2) hle hz0 hzs ⟨_, (hdist.set_ _ h2).1, (hdist.set_ _ h2).2, hk _⟩
theorem US.clear {off len : Nat} {zv : Value} {zs : List AV} {rs : List (List AV)} {objs' : List (Nat × Ob)} (hd : o.dst = none) (hg : o.guard = none) (ho : o.op = .call { callee := .builtin .clear, args := #[x], argTypes := #[t] }) (ht : RowT P t e sz b)
    (hx : evO l x = some (.own id off len sz)) (h2 : objs[k]? = some (id, .row e sz rows)) (hle : off + len ≤ rows.length) (hz0 : (P.info? e).map (·.zero) = some (some zv)) (hzs : zv.cells.toList.map AV.v = zs) (hr : rows.take off ++ List.replicate len zs ++ rows.drop (off + len) = rs) (hob : objs.set k (id, .row e sz rs) = objs')
    (hk : US P n ops Q H0 rest l objs') : US P n ops Q H0 (o :: rest) l objs :=
  US.step0 hd (DS.clear hg ho ht hx h2 hle hz0 hzs hr hob fun _ => hk)
theorem QS.slice3_own {v : Operand} {len i j m : Nat} {ki kj km : IntKind} (hg : o.guard = none) (ho : o.op = .slice t x (some y) (some z) (some v)) (ht : slT P t = some (e, sz, b)) (hx : evO l x = some (.own id 0 len sz))
    (hy : evO l y = some (.v (.int ki (i : Int)))) (hz : evO l z = some (.v (.int kj (j : Int)))) (hm : evO l v = some (.v (.int km (m : Int)))) (h1 : i ≤ j) (hh : j ≤ m) (hml : m ≤ len) : QS P n ops H0 o l objs .any :=
  fun hdist => Does.slice3_own hg ho ht (ev_of hx) (ev_of hy) (ev_of hz) (ev_of hm) h1 hh hml ⟨rfl, rfl⟩
/-- A call that turns one object, and nothing else. -/
theorem US.call_own {f : Nat} {cc : Operand} {args : Array Operand} {at_ : Array TypeId} {caps us : List AV} {r : AV} {ob' : Ob} {objs' : List (Nat × Ob)} (k : Nat) (hd : o.dst = some d) (hn : d < n) (hg : o.guard = none) (ho : o.op = .call { callee := .value cc, args := args, argTypes := at_ }) (hc : evO l cc = some (.clo f caps)) (ha : argsO l args.toList = some us)
    (h2 : objs[k]? = some (id, ob)) (h : ∀ G, G id = none → ACall P f (us ++ caps) (extH G [(id, ob)]) (fun u H' => u = r ∧ H' = extH G [(id, ob')])) (hob : objs.set k (id, ob') = objs') (hk : US P n ops Q H0 rest ((d, r) :: l) objs') : US P n ops Q H0 (o :: rest) l objs := by
  subst hob
  intro hdist
  have h3 := hdist.at_ h2
  have e1 : extH (set (extH H0 objs) id none) [(id, ob)] = extH H0 objs := by
    show set (set (extH H0 objs) id none) id (some ob) = _
    funext j
    by_cases hj : j = id
    · subst hj; rw [set_self, h3]
    · rw [set_ne _ _ hj, set_ne _ _ hj]
  have e2 : extH (set (extH H0 objs) id none) [(id, ob')] = extH H0 (objs.set k (id, ob')) := by
    rw [← (hdist.set_ ob' h2).1]
    show set (set (extH H0 objs) id none) id (some ob') = _
    funext j
    by_cases hj : j = id
    · subst hj; rw [set_self, set_self]
    · rw [set_ne _ _ hj, set_ne _ _ hj, set_ne _ _ hj]
  have h4 := h (set (extH H0 objs) id none) (by simp)
  rw [e1, e2] at h4
  exact US.call hd hn hg ho hc ha (fun _ => h4) (fun u H' ⟨q1, q2⟩ => ⟨_, q2, fun _ => (hdist.set_ ob' h2).2, by rw [q1]; exact hk⟩) hdist
/-- What lay there before the call. -/
theorem Dist.old {H0 : Hp} {ob : Ob} (h0 : H0 id = some ob) : ∀ {objs : List (Nat × Ob)}, Dist H0 objs → extH H0 objs id = some ob
  | _, .nil => h0
  | _, .cons (i := i) h1 h2 => by
    have h3 := Dist.old h0 h2
    have hne : id ≠ i := by rintro rfl; rw [h3] at h1; cases h1
    unfold extH
    rw [set_ne _ _ hne]; exact h3
theorem QS.ld_old {off : Nat} {ls : List AV} (hg : o.guard = none) (ho : o.op = .load t x) (ht : tyOf P t = some (false, sz)) (hx : evO l x = some (.ptr id off)) (h2 : H0 id = some (.box e ls)) (hr : ls[off]? = some u) : QS P n ops H0 o l objs u :=
  fun hdist => Does.load_cell hg ho (ev_of hx) (hdist.old h2) ht hr ⟨rfl, rfl⟩
def nilSl : AV → AV
  | .v (.slice none 0 0) => .sl []
  | u => u
def nilsL : List AV → List AV
  | [] => []
  | u :: r => nilSl u :: nilsL r
theorem nilsL_eq : ∀ r : List AV, nilsL r = r.map nilSl
  | [] => rfl
  | u :: r => by rw [nilsL, nilsL_eq r]; rfl
theorem rep_nilSl {ok : Nat → Prop} {ρ : Rho} {w : World} {u : AV} {x : Value} (h : Rep ok ρ w u x) : Rep ok ρ w (nilSl u) x := by
  unfold nilSl
  split
  · rw [rep_v h]; exact .nil
  · exact h
theorem okOf_dom {ρ : Rho} {H H' : Hp} (h : ∀ i, (H i).isSome = (H' i).isSome) : okOf ρ H = okOf ρ H' := by
  funext k
  have hx : ∀ {H H' : Hp}, (∀ i, (H i).isSome = (H' i).isSome) → Own ρ H k → Own ρ H' k := by
    rintro H H' h ⟨id, ob, v, h1, h2, h3⟩
    have h4 := h id
    rw [h1] at h4
    cases h5 : H' id with
    | none => rw [h5] at h4; cases h4
    | some ob' => exact ⟨id, ob', v, h5, h2, h3⟩
  exact propext ⟨fun hn ho => hn (hx (fun i => (h i).symm) ho), fun hn ho => hn (hx h ho)⟩
theorem inv_nils {E : Ent} {a : Act} {w : World} {T : Sl} (hdist : Dist H0 objs) (h2 : objs[k]? = some (id, .box e cells)) (hi : Inv E n T (extH H0 objs) a w) : Inv E n T (extH H0 (objs.set k (id, .box e (nilsL cells)))) a w := by
  obtain ⟨ρ, h1, h2', h3⟩ := hi.rel
  have hs := (hdist.set_ (.box e (nilsL cells)) h2).1
  have hat := hdist.at_ h2
  have hdom : ∀ i, (extH H0 objs i).isSome = (extH H0 (objs.set k (id, .box e (nilsL cells))) i).isSome := by
    intro i
    rw [← hs]
    by_cases hj : i = id
    · subst hj; rw [set_self, hat]; rfl
    · rw [set_ne _ _ hj]
  have hok := okOf_dom (ρ := ρ) hdom
  refine ⟨hi.size, hi.defers, ρ, ⟨fun id' ob hob => ?_, fun i i' o o' v v' k' q1 q2 q3 q4 q5 q6 => ?_, h1.room, h1.lt⟩, ⟨h2'.os, h2'.tape, h2'.output, h2'.size, h2'.block, fun k' ho => h2'.own k' ?_, h2'.rho⟩, fun t => by rw [← hok]; exact h3 t⟩
  · rw [← hok]
    rw [← hs] at hob
    by_cases hj : id' = id
    · subst hj
      rw [set_self] at hob
      cases hob
      obtain ⟨v, q1, g, vals, q2, q3, q4⟩ := h1.ob _ _ hat
      refine ⟨v, q1, g, vals, q2, q3, by rw [nilsL_eq, List.length_map]; exact q4.1, fun j u x hu hx => ?_⟩
      rw [nilsL_eq, List.getElem?_map] at hu
      cases hc : cells[j]? with
      | none => rw [hc] at hu; cases hu
      | some u0 =>
        rw [hc] at hu
        cases hu
        have := q4.2 j u0 x hc hx
        exact ⟨rep_nilSl this.1, this.2⟩
    · rw [set_ne _ _ hj] at hob
      exact h1.ob _ _ hob
  · have hx : ∀ {i : Nat} {o : Ob}, extH H0 (objs.set k (id, .box e (nilsL cells))) i = some o → ∃ o', extH H0 objs i = some o' := by
      intro i o h
      have h4 := hdom i
      rw [h] at h4
      cases h5 : extH H0 objs i with
      | none => rw [h5] at h4; cases h4
      | some o' => exact ⟨o', rfl⟩
    obtain ⟨p1, p2⟩ := hx q1
    obtain ⟨p3, p4⟩ := hx q2
    exact h1.apart i i' _ _ v v' k' p2 p4 q3 q4 q5 q6
  · have : ¬ okOf ρ (extH H0 (objs.set k (id, .box e (nilsL cells)))) k' := fun h => h ho
    rw [← hok] at this
    exact Classical.not_not.1 this
theorem US.nils {objs' : List (Nat × Ob)} (k : Nat) (h2 : objs[k]? = some (id, .box e cells)) (hob : objs.set k (id, .box e (nilsL cells)) = objs') (hk : US P n ops Q H0 rest l objs') : US P n ops Q H0 rest l objs := by
  subst hob
  exact fun hd E a w hi => hk (hd.set_ _ h2).2 E a w (inv_nils hd h2 hi)
theorem US.allocN {zs : List Value} {us us' : List AV} {z : Value} (hd : o.dst = some d) (hn : d < n) (hg : o.guard = none) (ho : o.op = .alloc e) (hz : (P.info? e).map (·.zero) = some (some z)) (hzs : z.cells.toList = zs) (hc : zs.all (·.oneCell') = true) (hv : vals zs = some us) (hu : nilsL us = us')
    (hk : ∀ id, US P n ops Q H0 rest ((d, .ptr id 0) :: l) ((id, .box e us') :: objs)) : US P n ops Q H0 (o :: rest) l objs :=
  US.alloc' hd hn hg ho hz hzs hc hv fun id => US.nils 0 rfl rfl (by rw [List.set_cons_zero, hu]; exact hk id)
theorem US.slot (d : Nat) {u' : AV} (hl : look l d = some u) (ht : Turns (extH H0 objs) u (extH H0 objs) u') (hk : US P n ops Q H0 rest ((d, u') :: l) objs) : US P n ops Q H0 rest l objs := by
  intro hd
  refine AOps.turn (fun _ _ h => h) (fun t => ?_) (hk hd)
  unfold ofL
  simp only [look]
  by_cases ht' : t = d
  · subst ht'
    rw [hl, if_pos rfl]; exact ht
  · rw [if_neg ht']; exact Turns.drop (fun _ _ h => h) _
theorem Turns.nils {H H' : Hp} (hs : Sub H' H) (r : List AV) : Turns H (.agg r) H' (.agg (nilsL r)) := by
  rw [nilsL_eq]
  refine Turns.agg (List.length_map ..) fun j u u' h1 h2 => ?_
  rw [List.getElem?_map, h1] at h2
  cases h2
  intro ρ w x hh hr
  exact rep_nilSl (Turns.drop hs u ρ w x hh hr)
theorem QS.nils {us us' : List AV} (hu : nilsL us = us') (h : QS P n ops H0 o l objs (.agg us)) : QS P n ops H0 o l objs (.agg us') := by
  subst hu
  intro hdist a w ρ h1 h2 h3 h4 N Q hN
  refine h hdist a w ρ h1 h2 h3 h4 N Q fun x w' ρ' u H' q1 q2 q3 q4 => ?_
  obtain ⟨rfl, rfl⟩ := q4
  exact hN x w' ρ' _ _ q1 q2 (Turns.nils (fun _ _ h => h) us ρ' w' x q1 q3) ⟨rfl, rfl⟩
theorem US.buildN {parts : Array (Nat × Operand)} {zs : List Value} {places : List (Nat × Nat)} {us zus rs rs' : List AV} {uss : List (List AV)} (offs : List Nat) (hd : o.dst = some d) (hn : d < n) (hg : o.guard = none) (ho : o.op = .build t parts) (ht : builtT P t = some (zs, places)) (hz : zs.all (·.oneCell') = true) (hv : vals zs = some zus)
    (ha : argsO l (parts.toList.map (·.2)) = some us) (hf : flatsO us = some uss) (hc : (uss.all fun cs => cs.all cellAV) = true) (hp : placesOk places (parts.toList.map (·.1)) offs (uss.map (·.length)) = true) (hr : foldO zus offs uss = some rs) (hu : nilsL rs = rs') (hk : US P n ops Q H0 rest ((d, .agg rs') :: l) objs) : US P n ops Q H0 (o :: rest) l objs :=
  US.qs hd hn (QS.nils hu (QS.build offs hg ho ht hz hv ha hf hc hp hr)) hk
theorem QS.buildN {parts : Array (Nat × Operand)} {zs : List Value} {places : List (Nat × Nat)} {us zus rs rs' : List AV} {uss : List (List AV)} (offs : List Nat) (hg : o.guard = none) (ho : o.op = .build t parts) (ht : builtT P t = some (zs, places)) (hz : zs.all (·.oneCell') = true) (hv : vals zs = some zus)
    (ha : argsO l (parts.toList.map (·.2)) = some us) (hf : flatsO us = some uss) (hc : (uss.all fun cs => cs.all cellAV) = true) (hp : placesOk places (parts.toList.map (·.1)) offs (uss.map (·.length)) = true) (hr : foldO zus offs uss = some rs) (hu : nilsL rs = rs') : QS P n ops H0 o l objs (.agg rs') := QS.nils hu (QS.build offs hg ho ht hz hv ha hf hc hp hr)
end
end Go.Eng
end
section
set_option linter.unusedVariables false
set_option linter.unusedSimpArgs false
namespace Go.Eng
open Go Go.RowKit
set_option linter.unusedSectionVars false
variable [Rd]
section
variable {P : Program} {n : Nat} {T : Sl} {H : Hp} {ops : Array Oper} {o : Oper} {K : AV → Hp → Prop}
theorem Does.extract {x : Operand} {us : List AV} {i : Nat} {u : AV} (hg : o.guard = none) (ho : o.op = .extract x i) (hx : ev T x = .tup us) (hu : us[i]? = some u) (hk : K u H) : Does P n ops o T H K := by
  refine Does.val _ hg (fun a w ρ h hr => ?_) hk
  have h5 := hr x
  rw [hx] at h5
  generalize hxx : a.eval x = xx at h5
  cases h5 with
  | tup _ vs hl hr2 =>
    have hlt : i < vs.length := by rw [← hl]; exact (List.getElem?_eq_some_iff.1 hu).1
    refine ⟨vs[i], ?_, hr2 i u _ hu (List.getElem?_eq_getElem hlt)⟩
    unfold execOp
    rw [ho]
    simp only [Sem.run_bind, hxx, Instr.extract]
    simp [hlt]
/-- A function without a body. -/
theorem Does.compare {f : FuncId} {fn : Func} {c x y : Operand} {at_ : Array TypeId} {p q : ByteArray} (hg : o.guard = none) (ho : o.op = .call { callee := .value c, args := #[x, y], argTypes := at_ }) (hc : ev T c = .clo f [])
    (hf : P.funcs[f]? = some fn) (hname : (fn.name == "runtime.NumGoroutine") = false) (hb : fn.body.isNone = true) (hn : Extern.findNext fn = none) (he : Extern.find fn = some Extern.BytealgCompare.compare)
    (hx : ev T x = .v (.string p)) (hy : ev T y = .v (.string q)) (hk : K (.v (.int .i64 (Lib.compareBytes p.data.toList q.data.toList))) H) : Does P n ops o T H K := by
  refine Does.val _ hg (fun a w ρ h hr => ?_) hk
  have h5 := hr c; rw [hc] at h5
  have h6 := hr x; rw [hx] at h6
  have h7 := hr y; rw [hy] at h7
  obtain ⟨vs, hv, hl, hvs⟩ := rep_clo h5
  have hvs0 : vs = [] := List.eq_nil_of_length_eq_zero (by simpa using hl.symm)
  subst hvs0
  refine ⟨_, ?_, .v _⟩
  have h8 := run_callFunc_extern (P := P) hf hname hb hn he #[.string p, .string q] w
  rw [Lib.run_compareString] at h8
  unfold execOp
  rw [ho]
  generalize a.eval = ev' at hv h6 h7 ⊢
  have e6 := rep_v h6
  have e7 := rep_v h7
  simp only [resolve, Deferred.ofValue, hv, invoke, Sem.run_bind, Sem.run_pure, Result.andThen_ok, List.map_toArray, List.map_cons, List.map_nil, e6, e7]
  simpa using h8
end
section
variable {P : Program} {n : Nat} {Q : AEx → Sl → Hp → Prop} {H0 : Hp} {c : Code} {l : List (Nat × AV)} {objs : List (Nat × Ob)} {ops : Array Oper} {rest : List Oper} {o : Oper}
variable {d : Nat} {x y z : Operand} {u : AV} {t e sz b : Nat} {id k : Nat} {K : AV → List (Nat × Ob) → Prop}
theorem QS.extract {us : List AV} {i : Nat} (hg : o.guard = none) (ho : o.op = .extract x i) (hx : evO l x = some (.tup us)) (hu : us[i]? = some u) : QS P n ops H0 o l objs u := fun _ => Does.extract hg ho (ev_of hx) hu ⟨rfl, rfl⟩
theorem US.compare {f : FuncId} {fn : Func} {cc : Operand} {at_ : Array TypeId} {p q : ByteArray} (hd : o.dst = some d) (hn : d < n) (hg : o.guard = none) (ho : o.op = .call { callee := .value cc, args := #[x, y], argTypes := at_ }) (hc : evO l cc = some (.clo f []))
    (hf : P.funcs[f]? = some fn) (hname : (fn.name == "runtime.NumGoroutine") = false) (hb : fn.body.isNone = true) (hnx : Extern.findNext fn = none) (he : Extern.find fn = some Extern.BytealgCompare.compare)
    (hx : evO l x = some (.v (.string p))) (hy : evO l y = some (.v (.string q))) (hk : US P n ops Q H0 rest ((d, .v (.int .i64 (Lib.compareBytes p.data.toList q.data.toList))) :: l) objs) : US P n ops Q H0 (o :: rest) l objs :=
  US.step hd hn fun hdist => Does.compare hg ho (ev_of hc) hf hname hb hnx he (ev_of hx) (ev_of hy) ⟨objs, rfl, hdist, hk⟩
theorem US.freeze' (d : Nat) {off len : Nat} (k : Nat) {rows rs : List (List AV)} (hl : look l d = some (.own id off len sz)) (h2 : objs[k]? = some (id, .row e sz rows)) (hle : off + len ≤ rows.length) (hr : (rows.drop off).take len = rs) (hk : US P n ops Q H0 rest ((d, .sl rs) :: l) (objs.eraseIdx k)) : US P n ops Q H0 rest l objs :=
  US.freeze d k hl h2 hle (by rw [hr]; exact hk)
def litOk (sz : Nat) (uss : List (List AV)) : Bool := uss.all fun cs => cs.all cellAV && cs.length == sz
theorem lit_ok {uss : List (List AV)} (h : litOk sz uss = true) : ∀ cs ∈ uss, cs.all cellAV = true ∧ cs.length = sz := by
  intro cs hcs
  have := List.all_eq_true.1 h cs hcs
  rw [Bool.and_eq_true, beq_iff_eq] at this
  exact this
end
end Go.Eng
end
