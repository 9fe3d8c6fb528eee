/- The engine, third part: what each operation does. -/
import Derived.Test.YtopaddebalfoeaaE1
namespace Go.Eng
open Go Go.RowKit
section
variable {P : Program} {n : Nat} {T : Sl} {H : Hp} {ops : Array Oper} {o : Oper} {K : AV → Hp → Prop}

theorem Does.move {x : Operand} (hg : o.guard = none) (ho : o.op = .move x) (hk : K (ev T x) H) : Does P n ops o T H K :=
  Does.val _ hg (fun a w ρ _ hr => ⟨a.eval x, by simp [execOp, ho, go_sem], hr x⟩) hk
theorem Does.assign {x : Operand} (hg : o.guard = none) (ho : o.op = .assign x) (hk : K (ev T x) H) : Does P n ops o T H K :=
  Does.val _ hg (fun a w ρ _ hr => ⟨a.eval x, by simp [execOp, ho, go_sem], hr x⟩) hk

theorem below_alloc (w : World) (o : Obj) : Below w.heap.size w (w.alloc o) := (Below.refl _ _).alloc (Nat.le_refl _) o
theorem heap_alloc_new (w : World) (o : Obj) : (w.alloc o).heap[w.heap.size]? = some o := by unfold World.alloc; simp
theorem size_alloc (w : World) (o : Obj) : (w.alloc o).heap.size = w.heap.size + 1 := by unfold World.alloc; simp

/-- New memory, whatever the operation. -/
theorem Does.newOb {T : Sl} (hg : o.guard = none)
    (h : ∀ (a : Act) (w : World) (ρ : Rho), HRel ρ H w → (∀ x : Operand, Rep (okOf ρ H) ρ w (ev T x) (a.eval x)) → ∃ x v w' ob, (execOp a.eval o).run P w = .ok (.value x) w' ∧ Below w.heap.size w w' ∧ (∀ k, blk v = some k → w.heap.size ≤ k ∧ k < w'.heap.size) ∧
      (∀ ρ' H', Ext ρ H w ρ' H' w' → ObRel (okOf ρ' H') ρ' w' v ob) ∧ (∀ id, H id = none → ∃ u, (∀ ok' ρ', ρ' id = some v → Rep ok' ρ' w' u x) ∧ K u (set H id (some ob)))) : Does P n ops o T H K := by
  intro a w ρ h1 h2 h3 h4 N Q hN
  rw [if_pos (by simp [Region.wanted, hg])]
  obtain ⟨x, v, w', ob, hx, hb, hv, hob, hu⟩ := h a w ρ h3 (ev_rep h4)
  obtain ⟨id, ρ', e1, e2, e3, e4, e5⟩ := h3.new v ob hb hv hob
  obtain ⟨u, hu1, hu2⟩ := hu id e2
  unfold Oper.wp
  rw [hx]
  exact hN x w' ρ' u _ e4 e5 (hu1 _ _ e3) hu2

def flat : AV → List AV
  | .agg l => l
  | u => [u]
def cellAV : AV → Bool
  | .agg _ | .tup _ | .any => false
  | .v x => x.oneCell'
  | _ => true
theorem cellAV_one {ok : Nat → Prop} {ρ : Rho} {w : World} {u : AV} {x : Value} (h : Rep ok ρ w u x) (hu : cellAV u = true) : x.oneCell' = true := by
  cases h <;> simp_all [cellAV, Value.oneCell']
theorem cells_one {x : Value} (h : x.oneCell' = true) : x.cells = #[x] := by cases x <;> simp_all [Value.oneCell', Value.cells]
/-- The cells of a value. -/
theorem rep_flat {ok : Nat → Prop} {ρ : Rho} {w : World} {u : AV} {x : Value} (h : Rep ok ρ w u x) (hu : (flat u).all cellAV = true) : RepCells ok ρ w (flat u) x.cells.toList := by
  have one : ∀ {u : AV}, Rep ok ρ w u x → flat u = [u] → cellAV u = true → RepCells ok ρ w (flat u) x.cells.toList := by
    intro u h hf hc
    have h1 := cellAV_one h hc
    rw [hf, cells_one h1]
    exact ⟨rfl, fun j u' x' hu hx => by
      cases j with
      | zero => simp at hu hx; subst hu hx; exact ⟨h, h1⟩
      | succ j => simp at hu⟩
  cases h with
  | agg l vs hl hr =>
    refine ⟨by simpa [flat, Value.cells] using hl, fun j u x h1 h2 => ?_⟩
    have h3 : vs[j]? = some x := by simpa [Value.cells] using h2
    have h4 := hr j u x h1 h3
    exact ⟨h4, cellAV_one h4 (List.all_eq_true.1 hu u (List.mem_of_getElem? h1))⟩
  | tup l vs hl hr => simp [flat, cellAV] at hu
  | any x => simp [flat, cellAV] at hu
  | v x => exact one (.v x) rfl (by simpa [flat] using hu)
  | nil => exact one .nil rfl rfl
  | sl rows a cap sz vals h1 h2 h3 h4 h5 h6 => exact one (.sl rows a cap sz vals h1 h2 h3 h4 h5 h6) rfl rfl
  | rp cells a vals h1 h2 h3 => exact one (.rp cells a vals h1 h2 h3) rfl rfl
  | own0 id sz h => exact one (.own0 id sz h) rfl rfl
  | own id off len sz g n cap h h1 h2 => exact one (.own id off len sz g n cap h h1 h2) rfl rfl
  | ownE id off sz g n cap o' c' h h0 hm => exact one (.ownE id off sz g n cap o' c' h h0 hm) rfl rfl
  | ptr id off g x h hx => exact one (.ptr id off g x h hx) rfl rfl
  | clo f caps vs h1 h2 => exact one (.clo f caps vs h1 h2) rfl rfl
  | ifc t u x h => exact one (.ifc t u x h) rfl rfl

theorem box_rel {ρ : Rho} {w : World} {cs : Array Value} {t : Nat} (w' : World) (hw : w' = w.alloc (.cells cs t)) {us : List AV} (h : RepCells (okOf ρ H) ρ w us cs.toList) :
    ∀ ρ' H', Ext ρ H w ρ' H' w' → ObRel (okOf ρ' H') ρ' w' (.pointer (some ⟨w.heap.size, 0, none⟩)) (.box t us) := by
  intro ρ' H' e
  subst hw
  exact ⟨w.heap.size, cs.toList, rfl, by simpa using heap_alloc_new w _, e.cells h⟩

theorem Does.box {e : TypeId} {x : Operand} (hg : o.guard = none) (ho : o.op = .box e x) (hc : (flat (ev T x)).all cellAV = true)
    (hk : ∀ id, H id = none → K (.ptr id 0) (set H id (some (.box e (flat (ev T x)))))) : Does P n ops o T H K := by
  refine Does.newOb hg fun a w ρ h hr => ?_
  refine ⟨.pointer (some ⟨w.heap.size, 0, none⟩), .pointer (some ⟨w.heap.size, 0, none⟩), w.alloc (.cells (a.eval x).cells e), .box e (flat (ev T x)), ?_, below_alloc _ _, ?_, box_rel _ rfl (rep_flat (hr x) hc), ?_⟩
  · simp [execOp, ho, go_sem, Instr.box, newVar, newRow]
  · intro k hk; cases hk; rw [size_alloc]; simp
  · intro id hid
    exact ⟨.ptr id 0, fun ok' ρ' h => .ptr id 0 _ _ h (.inl rfl), hk id hid⟩

/-- The zero value of a type, as cells. -/
def avz : Value → AV := .v
theorem repcells_v {ok : Nat → Prop} {ρ : Rho} {w : World} (vs : List Value) (h : vs.all (·.oneCell') = true) : RepCells ok ρ w (vs.map .v) vs :=
  ⟨by simp, fun j u x h1 h2 => by
    rw [List.getElem?_map, h2] at h1
    cases h1
    exact ⟨.v x, List.all_eq_true.1 h x (List.mem_of_getElem? h2)⟩⟩

theorem Does.alloc {e : TypeId} {z : Value} (hg : o.guard = none) (ho : o.op = .alloc e) (hz : (P.info? e).map (·.zero) = some (some z)) (hc : z.cells.toList.all (·.oneCell') = true)
    (hk : ∀ id, H id = none → K (.ptr id 0) (set H id (some (.box e (z.cells.toList.map .v))))) : Does P n ops o T H K := by
  refine Does.newOb hg fun a w ρ h hr => ?_
  refine ⟨.pointer (some ⟨w.heap.size, 0, none⟩), .pointer (some ⟨w.heap.size, 0, none⟩), w.alloc (.cells z.cells e), .box e (z.cells.toList.map .v), ?_, below_alloc _ _, ?_, box_rel _ rfl (repcells_v _ hc), ?_⟩
  · obtain ⟨i, hi, hz⟩ := Option.map_eq_some_iff.1 hz
    simp [execOp, ho, go_sem, Instr.alloc, newVar, newRow, zeroValue, typeInfo, hi, hz]
  · intro k hk; cases hk; rw [size_alloc]; simp
  · intro id hid
    exact ⟨.ptr id 0, fun ok' ρ' h => .ptr id 0 _ _ h (.inl rfl), hk id hid⟩

/-! reading and writing objects -/
def cellsOf : Ob → List AV
  | .box _ l => l
  | .row _ _ rows => rows.flatten
  | .iter _ _ => []
  | .rowc _ _ rows _ => rows.flatten
def memOb : Ob → Bool
  | .iter _ _ => false
  | .rowc _ _ _ _ => false
  | _ => true

theorem ptr_cells {ρ : Rho} {w : World} {id off : Nat} {ob : Ob} {x : Value} (h : HRel ρ H w) (h2 : H id = some ob) (hr : Rep (okOf ρ H) ρ w (.ptr id off) x) (hm : memOb ob = true := by rfl) :
    ∃ g vals v, x = .pointer (some ⟨g, off, none⟩) ∧ ρ id = some v ∧ blk v = some g ∧ RepCells (okOf ρ H) ρ w (cellsOf ob) vals ∧ (∀ j y, vals[j]? = some y → w.cell? ⟨g, j, none⟩ = some y) ∧ (∃ cur t, w.heap[g]? = some (.cells cur t (0, 0)) ∧ cur.toList.take vals.length = vals) := by
  obtain ⟨v, hv, hob⟩ := h.ob id _ h2
  cases hr with
  | ptr _ _ g' x' hx hx' =>
    rw [hv] at hx
    cases hx
    cases ob with
    | iter s pos => cases hm
    | rowc _ _ _ _ => cases hm
    | box t l =>
      obtain ⟨g, vals, rfl, hg, hc⟩ := hob
      rcases hx' with h3 | ⟨_, _, h3⟩
      · cases h3
        exact ⟨_, vals, _, rfl, hv, rfl, hc, fun j y hj => by simp [World.cell?, hg, hj], _, _, hg, by simp⟩
      · cases h3
    | row e sz rows =>
      obtain ⟨h0, inner, ho, hl, hc⟩ := hob
      rcases hx' with h3 | ⟨_, _, h3⟩
      · subst h3
        rcases ho.2 with ⟨h4, _⟩ | ⟨_, _, _, h4, _⟩ <;> cases h4
      · subst h3
        rcases ho.2 with ⟨h4, _⟩ | ⟨g, cap, cur, h4, _, hg, h5, h6, h7, h8⟩
        · cases h4
        · cases h4
          refine ⟨_, inner, _, rfl, hv, rfl, hc, fun j y hj => ?_, cur, e, hg, by rw [← h8, List.length_take]; simp⟩
          have hj2 : cur[j]? = some y := by
            rw [← h8, List.getElem?_take] at hj
            split at hj
            · simpa using hj
            · cases hj
          simp [World.cell?, hg, hj2]

def isAggD : TypeDesc → Bool
  | .struct _ | .array _ _ => true
  | _ => false
/-- A type's shape: is it a struct or an array; how many cells. -/
def tyOf (P : Program) (t : TypeId) : Option (Bool × Nat) :=
  match P.underlying t, P.info? t with
  | some d, some i => some (isAggD d, i.size)
  | _, _ => none
theorem tyOf_some {t : TypeId} {b : Bool} {s : Nat} (h : tyOf P t = some (b, s)) : ∃ d i, P.underlying t = some d ∧ P.info? t = some i ∧ isAggD d = b ∧ i.size = s := by
  unfold tyOf at h
  split at h
  · cases h; exact ⟨_, _, by assumption, by assumption, rfl, rfl⟩
  · cases h

theorem run_loadVar_cells {t : TypeId} {w : World} {a : Addr} {vs : List Value} (ht : tyOf P t = some (true, vs.length)) (hc : ∀ j v, vs[j]? = some v → w.cell? (a.add j) = some v) :
    (loadVar t a).run P w = .ok (.agg vs.toArray) w := by
  obtain ⟨d, i, hd, hi, hb, hs⟩ := tyOf_some ht
  have h1 := run_underlying (w := w) hd
  have h2 := run_loadCells_list (P := P) (w := w) a vs hc
  have h3 : (isAgg t).run P w = .ok true w := by
    cases d <;> simp_all [isAgg, isAggD, go_sem]
  have h4 : (sizeOf t).run P w = .ok vs.length w := by simp [sizeOf, typeInfo, hi, hs, go_sem]
  unfold loadVar
  simp only [Sem.run_bind, h3, Result.andThen_ok, if_true, h4, h2, Sem.run_pure]
theorem run_loadVar_one {t : TypeId} {s : Nat} {w : World} {a : Addr} {v : Value} (ht : tyOf P t = some (false, s)) (hc : w.cell? a = some v) :
    (loadVar t a).run P w = .ok v w := by
  obtain ⟨d, i, hd, hi, hb, hs⟩ := tyOf_some ht
  have h1 := run_underlying (w := w) hd
  have h3 : (isAgg t).run P w = .ok false w := by
    cases d <;> simp_all [isAgg, isAggD, go_sem]
  unfold loadVar
  simp only [Sem.run_bind, h3, Result.andThen_ok, Bool.false_eq_true, if_false]
  simp [go_sem, hc]
theorem run_op_load {a : Act} {w : World} {t : TypeId} {x : Operand} {ad : Addr} {v : Value} (ho : o.op = .load t x) (hx : a.eval x = .pointer (some ad)) (h5 : (loadVar t ad).run P w = .ok v w) : (execOp a.eval o).run P w = .ok (.value v) w := by
  unfold execOp
  rw [ho]
  simp only [Instr.loadAt, Instr.sureAddr, hx, Sem.run_bind, Sem.run_pure, Result.andThen_ok, h5]

theorem repcells_get {ok : Nat → Prop} {ρ : Rho} {w : World} {us : List AV} {xs : List Value} (h : RepCells ok ρ w us xs) {j : Nat} {u : AV} (hj : us[j]? = some u) : ∃ x, xs[j]? = some x ∧ Rep ok ρ w u x ∧ x.oneCell' = true := by
  have hlt : j < xs.length := by rw [← h.1]; exact (List.getElem?_eq_some_iff.1 hj).1
  have hx := List.getElem?_eq_getElem hlt
  exact ⟨_, hx, h.2 j u _ hj hx⟩
theorem repcells_sub {ok : Nat → Prop} {ρ : Rho} {w : World} {us : List AV} {xs : List Value} (h : RepCells ok ρ w us xs) (off s : Nat) : RepCells ok ρ w ((us.drop off).take s) ((xs.drop off).take s) :=
  ⟨by simp [h.1], fun j u x h1 h2 => by
    rw [List.getElem?_take] at h1 h2
    split at h1
    · rename_i hj
      rw [if_pos hj] at h2
      rw [List.getElem?_drop] at h1 h2
      exact h.2 _ u x h1 h2
    · cases h1⟩

theorem Does.load_agg {t : TypeId} {x : Operand} {id off : Nat} {ob : Ob} {s : Nat} (hg : o.guard = none) (ho : o.op = .load t x) (hx : ev T x = .ptr id off) (h2 : H id = some ob)
    (ht : tyOf P t = some (true, s)) (hs : off + s ≤ (cellsOf ob).length) (hk : K (.agg (((cellsOf ob).drop off).take s)) H) (hm : memOb ob = true := by rfl) : Does P n ops o T H K := by
  refine Does.val _ hg (fun a w ρ h hr => ?_) hk
  have h3 := hr x
  rw [hx] at h3
  obtain ⟨g, vals, v, hx2, _, _, hc, hcell, _⟩ := ptr_cells h h2 h3 hm
  have hl : ((vals.drop off).take s).length = s := by simp [← hc.1]; omega
  refine ⟨.agg ((vals.drop off).take s).toArray, ?_, rep_agg_cells (repcells_sub hc off s)⟩
  have h5 := run_loadVar_cells (P := P) (t := t) (w := w) (a := ⟨g, off, none⟩) (vs := (vals.drop off).take s) (by rw [hl]; exact ht) (fun j y hj => by
    rw [add_plain]
    rw [List.getElem?_take] at hj
    split at hj
    · rw [List.getElem?_drop] at hj; exact hcell _ _ hj
    · cases hj)
  exact run_op_load ho hx2 h5
theorem Does.load_cell {t : TypeId} {x : Operand} {id off : Nat} {ob : Ob} {s : Nat} {u : AV} (hg : o.guard = none) (ho : o.op = .load t x) (hx : ev T x = .ptr id off) (h2 : H id = some ob)
    (ht : tyOf P t = some (false, s)) (hs : (cellsOf ob)[off]? = some u) (hk : K u H) (hm : memOb ob = true := by rfl) : Does P n ops o T H K := by
  refine Does.val _ hg (fun a w ρ h hr => ?_) hk
  have h3 := hr x
  rw [hx] at h3
  obtain ⟨g, vals, v, hx2, _, _, hc, hcell, _⟩ := ptr_cells h h2 h3 hm
  obtain ⟨y, hy, hrep, _⟩ := repcells_get hc hs
  refine ⟨y, ?_, hrep⟩
  have h5 := run_loadVar_one (P := P) (t := t) (w := w) (a := ⟨g, off, none⟩) ht (hcell off y hy)
  exact run_op_load ho hx2 h5

theorem rp_cells {ok : Nat → Prop} {ρ : Rho} {w : World} {cells : List AV} {x : Value} (hr : Rep ok ρ w (.rp cells) x) :
    ∃ a vals, x = .pointer (some a) ∧ RepCells ok ρ w cells vals ∧ ∀ j y, vals[j]? = some y → w.cell? (a.add j) = some y := by
  cases hr with
  | rp _ a vals hok hc hr =>
    refine ⟨a, (List.range cells.length).map vals, rfl, ⟨by simp, fun j u x h1 h2 => ?_⟩, fun j y hj => ?_⟩
    · have hlt := (List.getElem?_eq_some_iff.1 h1).1
      simp [hlt] at h2
      subst h2
      exact ⟨hr j u h1, (hc j hlt).2⟩
    · have hlt : j < cells.length := by have := (List.getElem?_eq_some_iff.1 hj).1; simpa using this
      have h1 : vals j = y := by simpa [hlt] using hj
      subst h1
      exact (hc j hlt).1
theorem Does.load_rp_agg {t : TypeId} {x : Operand} {cells : List AV} (hg : o.guard = none) (ho : o.op = .load t x) (hx : ev T x = .rp cells)
    (ht : tyOf P t = some (true, cells.length)) (hk : K (.agg cells) H) : Does P n ops o T H K := by
  refine Does.val _ hg (fun a w ρ h hr => ?_) hk
  have h3 := hr x
  rw [hx] at h3
  obtain ⟨ad, vals, hx2, hc, hcell⟩ := rp_cells h3
  refine ⟨.agg vals.toArray, ?_, rep_agg_cells hc⟩
  have h5 := run_loadVar_cells (P := P) (t := t) (w := w) (a := ad) (vs := vals) (by rw [← hc.1]; exact ht) hcell
  exact run_op_load ho hx2 h5
theorem add_zero' (a : Addr) : a.add 0 = a := by simp [Addr.add]
theorem Does.load_rp_cell {t : TypeId} {x : Operand} {u : AV} {cells : List AV} {s : Nat} (hg : o.guard = none) (ho : o.op = .load t x) (hx : ev T x = .rp (u :: cells))
    (ht : tyOf P t = some (false, s)) (hk : K u H) : Does P n ops o T H K := by
  refine Does.val _ hg (fun a w ρ h hr => ?_) hk
  have h3 := hr x
  rw [hx] at h3
  obtain ⟨ad, vals, hx2, hc, hcell⟩ := rp_cells h3
  obtain ⟨y, hy, hrep, _⟩ := repcells_get hc (j := 0) rfl
  refine ⟨y, ?_, hrep⟩
  have h6 := hcell 0 y hy
  rw [add_zero'] at h6
  have h5 := run_loadVar_one (P := P) (t := t) (w := w) (a := ad) ht h6
  exact run_op_load ho hx2 h5
end
end Go.Eng
