/- The engine, second part: states, codes, loops, calls, regions in the order of the text. · The engine, third part: what each operation does. -/
import Derived.Test.YtgmfgmbgmjbdhaaGreatDoorKx01
import Derived.TacticsIn
import Derived.OrdersIn
import Derived.Sort.LoopGhostIn
import Derived.RangeFuncLeaves
import Derived.RangeFuncFrom
section
namespace Go.Eng
open Go Go.RowKit
set_option linter.unusedSectionVars false
structure Ent where
  ρ : Rho
  H : Hp
  w : World
abbrev Sl := Nat → AV
/-- What is deferred: nothing, or the blocks in which ranges over functions gather (nothing). -/
def markOf (D : Nat) : Deferred := { target := .collected D, args := #[] }
def Marks (E : Ent) (ds : List Deferred) (w : World) : Prop := ∃ Ds : List Nat, ds = Ds.map markOf ∧ Ds.Nodup ∧ ∀ D ∈ Ds, E.w.heap.size ≤ D ∧ w.heap[D]? = some (.deferred (some []))
theorem Marks.none {E : Ent} {w : World} : Marks E [] w := ⟨[], rfl, List.nodup_nil, fun D h => by cases h⟩
theorem not_own_deferred {ρ : Rho} {H : Hp} {w : World} {D : Nat} {x : Option (List Deferred)} (h : HRel ρ H w) (hD : w.heap[D]? = some (.deferred x)) : ¬ Own ρ H D := by
  rintro ⟨id, ob, v, h1, h2, h3⟩
  obtain ⟨v', hv', hob⟩ := h.ob id ob h1
  rw [h2] at hv'
  cases hv'
  cases ob with
  | box t cells => obtain ⟨g, vals, rfl, hg, hr⟩ := hob; cases h3; rw [hg] at hD; cases hD
  | row e sz rows =>
    obtain ⟨h0, inner, ho, hl, hr⟩ := hob
    rcases ho.2 with ⟨rfl, _⟩ | ⟨g, cap, cur, rfl, _, hg, _⟩
    · cases h3
    · cases h3; rw [hg] at hD; cases hD
  | iter s pos => obtain ⟨g, rfl, hg⟩ := hob; cases h3; rw [hg] at hD; cases hD
  | rowc e sz rows c => obtain ⟨h0, g, n, inner, cur, rfl, hg, _⟩ := hob; cases h3; rw [hg] at hD; cases hD
  | raw g x => obtain ⟨rfl, _⟩ := hob; cases h3
  | mp es => obtain ⟨g, l, clk, rfl, hg, _⟩ := hob; cases h3; rw [hg] at hD; cases hD
theorem Marks.step {E : Ent} {ds : List Deferred} {w w' : World} {ρ ρ' : Rho} {H H' : Hp} (h : Marks E ds w) (hr : HRel ρ H w) (e : Ext ρ H w ρ' H' w') : Marks E ds w' := by
  obtain ⟨Ds, h1, h2, h3⟩ := h
  exact ⟨Ds, h1, h2, fun D hD => ⟨(h3 D hD).1, (e.block D (Array.getElem?_eq_some_iff.1 (h3 D hD).2).1 (not_own_deferred hr (h3 D hD).2)).trans (h3 D hD).2⟩⟩
theorem Rep.off {ok : Nat → Prop} {ρ : Rho} {w w' : World} {u : AV} {x : Value} (h : Rep ok ρ w u x) (hc : ∀ a v, w.cell? a = some v → w'.cell? a = some v) (hs : w.heap.size ≤ w'.heap.size) : Rep ok ρ w' u x := by
  induction h with
  | any x => exact .any x
  | v x => exact .v x
  | agg l vs h hr ih => exact .agg l vs h ih
  | tup l vs h hr ih => exact .tup l vs h ih
  | nil => exact .nil
  | sl rows a cap sz vals hcap hmax hok hsz hcc hr ih => exact .sl rows a cap sz vals hcap hmax (fun hn => ⟨(hok hn).1, Nat.lt_of_lt_of_le (hok hn).2 hs⟩) hsz (fun i cs j h1 h2 => ⟨hc _ _ (hcc i cs j h1 h2).1, (hcc i cs j h1 h2).2⟩) ih
  | rp cells a vals hok hcc hr ih => exact .rp cells a vals (fun hn => ⟨(hok hn).1, Nat.lt_of_lt_of_le (hok hn).2 hs⟩) (fun j h1 => ⟨hc _ _ (hcc j h1).1, (hcc j h1).2⟩) ih
  | own0 id sz h => exact .own0 id sz h
  | own id off len sz g n cap h hle hmax => exact .own id off len sz g n cap h hle hmax
  | ownE id off sz g n cap o' c' h h0 hm => exact .ownE id off sz g n cap o' c' h h0 hm
  | ptr id off g x h hx => exact .ptr id off g x h hx
  | clo f caps vs h hr ih => exact .clo f caps vs h ih
  | ifc t u x h ih => exact .ifc t u x ih
  | bsl id off len g cap h hl hm => exact .bsl id off len g cap h hl hm
  | mpr id g h => exact .mpr id g h
theorem RepCells.off {ok : Nat → Prop} {ρ : Rho} {w w' : World} {us : List AV} {xs : List Value} (h : RepCells ok ρ w us xs) (hc : ∀ a v, w.cell? a = some v → w'.cell? a = some v) (hs : w.heap.size ≤ w'.heap.size) : RepCells ok ρ w' us xs :=
  ⟨h.1, fun j u x h1 h2 => ⟨(h.2 j u x h1 h2).1.off hc hs, (h.2 j u x h1 h2).2⟩⟩
/-- What keeps all that objects stand in. -/
structure Keeps (ρ : Rho) (H : Hp) (w w' : World) : Prop where
  os : w'.os = w.os
  tape : w'.tape = w.tape
  output : w'.output = w.output
  size : w.heap.size ≤ w'.heap.size
  cells : ∀ (k : Nat) (o : Obj), w.heap[k]? = some o → o.isCells = true → w'.heap[k]? = some o
  iter : ∀ id s pos g, H id = some (.iter s pos) → ρ id = some (.pointer (some ⟨g, 0, none⟩)) → w'.heap[g]? = w.heap[g]?
  mp : ∀ id es g, H id = some (.mp es) → ρ id = some (.map (some g)) → w'.heap[g]? = w.heap[g]?
theorem Keeps.cell {ρ : Rho} {H : Hp} {w w' : World} (k : Keeps ρ H w w') : ∀ a v, w.cell? a = some v → w'.cell? a = some v := by
  intro a v h
  obtain ⟨o, h1, h2⟩ := cells_of_cell h
  have h3 := k.cells _ _ h1 h2
  unfold World.cell? at h ⊢
  rw [h3]; rw [h1] at h; exact h
theorem HRel.off {ρ : Rho} {H : Hp} {w w' : World} (h : HRel ρ H w) (k : Keeps ρ H w w') : HRel ρ H w' where
  ob id ob hi := by
    obtain ⟨v, h1, h2⟩ := h.ob id ob hi
    refine ⟨v, h1, ?_⟩
    cases ob with
    | box t cells => obtain ⟨g, vals, rfl, hg, hr⟩ := h2; exact ⟨g, vals, rfl, k.cells _ _ hg rfl, hr.off k.cell k.size⟩
    | row e sz rows =>
      obtain ⟨h0, inner, ho, hl, hr⟩ := h2
      refine ⟨h0, inner, ⟨ho.1, ?_⟩, hl, hr.off k.cell k.size⟩
      rcases ho.2 with h2 | ⟨g, cap, cur, rfl, hg, hh, r⟩
      · exact .inl h2
      · exact .inr ⟨g, cap, cur, rfl, hg, k.cells _ _ hh rfl, r⟩
    | iter s pos => obtain ⟨g, rfl, hg⟩ := h2; exact ⟨g, rfl, (k.iter id s pos g hi h1).trans hg⟩
    | rowc e sz rows c => obtain ⟨h0, g, n, inner, cur, rfl, hg, r1, r2, r3, r4, r5, hr⟩ := h2; exact ⟨h0, g, n, inner, cur, rfl, k.cells _ _ hg rfl, r1, r2, r3, r4, r5, hr.off k.cell k.size⟩
    | raw g x => obtain ⟨rfl, hok, hg, cs, t, f, rfl⟩ := h2; exact ⟨rfl, hok, k.cells _ _ hg rfl, cs, t, f, rfl⟩
    | mp es => obtain ⟨g, l, clk, rfl, hg, r1, r2⟩ := h2; exact ⟨g, l, clk, rfl, (k.mp id es g hi h1).trans hg, r1, r2.off k.cell k.size⟩
  apart := h.apart
  room := h.room
  lt id v g h1 h2 := Nat.lt_of_lt_of_le (h.lt id v g h1 h2) k.size
/-- A mark's block is shut. -/
theorem keeps_shut {ρ : Rho} {H : Hp} {w : World} {D : Nat} {x : Option (List Deferred)} (h : HRel ρ H w) (hD : w.heap[D]? = some (.deferred x)) : Keeps ρ H w (w.putObj D (.deferred none)) where
  os := rfl
  tape := rfl
  output := rfl
  size := by simp [World.putObj]
  cells k o h1 h2 := by
    rw [World.putObj_heap_other (fun e => by subst e; rw [h1] at hD; cases hD; cases h2)]; exact h1
  iter id s pos g h1 h2 := World.putObj_heap_other (fun e => by
    subst e
    obtain ⟨v, hv, g', rfl, hg⟩ := h.ob id _ h1
    rw [h2] at hv; cases hv
    rw [hg] at hD; cases hD)
  mp id es g h1 h2 := World.putObj_heap_other (fun e => by
    subst e
    obtain ⟨v, hv, g', l, clk, rfl, hg, _⟩ := h.ob id _ h1
    rw [h2] at hv; cases hv
    rw [hg] at hD; cases hD)
structure Inv (E : Ent) (n : Nat) (T : Sl) (H : Hp) (a : Act) (w : World) : Prop where
  size : a.tmps.size = n
  defers : Marks E a.defers w
  rel : ∃ ρ, HRel ρ H w ∧ Ext E.ρ E.H E.w ρ H w ∧ ∀ t, Rep (okOf ρ H) ρ w (T t) (a.tmps.getD t undef)
inductive AEx where
  | normal
  | exit (id : Nat)
  | goto (l : Nat)
  | ret
def lift (E : Ent) (n : Nat) (Q : AEx → Sl → Hp → Prop) : Exit → Act → World → Prop
  | .normal, a, w => ∃ T H, Inv E n T H a w ∧ Q .normal T H
  | .exit id, a, w => ∃ T H, Inv E n T H a w ∧ Q (.exit id) T H
  | .goto l, a, w => ∃ T H, Inv E n T H a w ∧ Q (.goto l) T H
  | .ret, a, w => ∃ T H, Inv E n T H a w ∧ Q .ret T H
  | _, _, _ => False
class Rd where
  r : Option Nat
instance rd0 : Rd := ⟨none⟩
def fen (r : Option Nat) : Fence := { Fence.wide with round := r }
theorem callsIn_fen {r : Option Nat} {n : Nat} {P : Program} {f : FuncId} {args : Array Value} {w : World} {R : Ending → World → Prop} (h : Calls P f args w R) : CallsIn (fen r) n P f args w R :=
  (callsIn_wide (n := n)).2 h
theorem rowsIn_fen {r : Option Nat} {n : Nat} {P : Program} {row : String} {args : Array Value} {w : World} {R : Value → World → Prop} (h : Rows P row args w R) : RowsIn (fen r) n P row args w R := fun c cs _ => by
  obtain ⟨v, w', h1, h2⟩ := h c cs
  exact ⟨v, w', h1, stepsIn_wide.2 h2⟩
theorem wp_fen {r : Option Nat} {P : Program} {o : Oper} {a : Act} {w : World} {N : Act → World → Prop} {Q : Exit → Act → World → Prop} (h : o.wp P a w (fun a' w' => a'.defers = a.defers ∧ N a' w') Q) (hQ : ∀ c a w, ¬ Q (.panic c) a w) : o.wpIn (fen r) 3 P a w N Q := by
  unfold Oper.wp at h
  refine ⟨fun _ _ => trivial, ?_⟩
  have hnd : ∀ c, o.op ≠ .defer c := by
    intro c hc
    unfold execOp at h
    rw [hc] at h
    simp only [Sem.run_bind] at h
    generalize (resolve a.eval c o.type).run P w = x at h
    cases x with
    | ok d w' =>
      simp only [Result.andThen_ok, Sem.run_pure, Oper.upon] at h
      have h1 := h.1
      simp [Act.put] at h1
      split at h1 <;> simp at h1
    | halt x w' =>
      cases x <;> simp only [Result.andThen, Oper.upon] at h
      exact hQ _ _ _ h
  rw [Oper.semAt_eq _ _ _ hnd]
  generalize (execOp a.eval o).run P w = x at h
  cases x with
  | ok y w' =>
    cases y <;> simp only [Oper.upon, Oper.uponIn] at h ⊢
    case value v => exact h.2
    case skip => exact h.2
    case defer d => exact h.2
    case enter f args => exact ⟨fun hh => (by cases hh), callsIn_fen (h.mono fun e w'' he => by cases e <;> first | exact he.2 | exact he)⟩
    case row row args => exact ⟨fun hh => (by cases hh), rowsIn_fen (fun c cs => by obtain ⟨v, w'', h1, h2⟩ := h c cs; exact ⟨v, w'', h1.2, h2⟩)⟩
  | halt y w' => cases y <;> simp only [Oper.upon, Oper.uponIn] at h ⊢ <;> exact h
theorem put_defers (a : Act) (d : Option Nat) (x : Value) : (a.put d x).defers = a.defers := by unfold Act.put; split <;> rfl
/-- From whatever represents T and H the code ends as Q says. -/
def AW [Rd] (P : Program) (n : Nat) (c : Code) (Q : AEx → Sl → Hp → Prop) (T : Sl) (H : Hp) : Prop :=
  ∀ E a w, Inv E n T H a w → c.wpIn (fen Rd.r) 3 P (lift E n Q) a w
def AOps [Rd] (P : Program) (n : Nat) (ops : Array Oper) (Q : AEx → Sl → Hp → Prop) (rest : List Oper) (T : Sl) (H : Hp) : Prop :=
  ∀ E a w, Inv E n T H a w → wpListIn (fen Rd.r) 3 P ops (lift E n Q) rest a w
def thenA (N : Sl → Hp → Prop) (Q : AEx → Sl → Hp → Prop) : AEx → Sl → Hp → Prop
  | .normal, T, H => N T H
  | e, T, H => Q e T H
def inBlockA (id : Nat) (Q : AEx → Sl → Hp → Prop) : AEx → Sl → Hp → Prop
  | .exit id', T, H => if id' = id then Q .normal T H else Q (.exit id') T H
  | e, T, H => Q e T H
section
variable [Rd] {P : Program} {n : Nat} {Q : AEx → Sl → Hp → Prop} {T : Sl} {H : Hp}
theorem lift_mono {E : Ent} {Q' : AEx → Sl → Hp → Prop} (h : ∀ e T H, Q e T H → Q' e T H) : ∀ e a w, lift E n Q e a w → lift E n Q' e a w := by
  intro e a w hh
  cases e <;> first | exact hh.elim | (obtain ⟨T, H, hi, hq⟩ := hh; exact ⟨T, H, hi, h _ _ _ hq⟩)
theorem AW.mono {c : Code} {Q' : AEx → Sl → Hp → Prop} (h : AW P n c Q T H) (hq : ∀ e T H, Q e T H → Q' e T H) : AW P n c Q' T H :=
  fun E a w hi => wpIn_mono (h E a w hi) (lift_mono hq)
theorem AW.skip (h : Q .normal T H) : AW P n .skip Q T H := fun _ _ _ hi => wpIn_skip ⟨T, H, hi, h⟩
theorem AW.exit {id : Nat} (h : Q (.exit id) T H) : AW P n (.exit id) Q T H := fun _ _ _ hi => wpIn_exit ⟨T, H, hi, h⟩
theorem AW.ret (h : Q .ret T H) : AW P n .ret Q T H := fun _ _ _ hi => wpIn_ret ⟨T, H, hi, h⟩
theorem AW.seq {x y : Code} (h : AW P n x (thenA (AW P n y Q) Q) T H) : AW P n (.seq x y) Q T H := by
  intro E a w hi
  refine wpIn_seq (wpIn_mono (h E a w hi) ?_)
  intro e a' w' hh
  cases e with
  | normal => obtain ⟨T', H', hi', hq⟩ := hh; exact hq E a' w' hi'
  | exit id => exact hh
  | goto l => exact hh
  | ret => exact hh
  | panic ch => exact hh.elim
  | outgrown => exact hh.elim
theorem AW.block {id : Nat} {c : Code} (h : AW P n c (inBlockA id Q) T H) : AW P n (.block id c) Q T H := by
  intro E a w hi
  refine wpIn_block (wpIn_mono (h E a w hi) ?_)
  intro e a' w' hh
  cases e with
  | normal => exact hh
  | exit id' =>
    obtain ⟨T', H', hi', hq⟩ := hh
    simp only [Exit.inBlock]
    simp only [inBlockA] at hq
    split
    · rw [if_pos (by assumption)] at hq; exact ⟨T', H', hi', hq⟩
    · rw [if_neg (by assumption)] at hq; exact ⟨T', H', hi', hq⟩
  | goto l => exact hh
  | ret => exact hh
  | panic ch => exact hh.elim
  | outgrown => exact hh.elim
/-- An operand. -/
def ev (T : Sl) : Operand → AV
  | .tmp t => T t
  | .const x => .v x
  | .global g => .v (.pointer (some ⟨g, 0, none⟩))
  | .func f => .clo f []
theorem ev_rep {ρ : Rho} {H : Hp} {a : Act} {w : World} (h : ∀ t, Rep (okOf ρ H) ρ w (T t) (a.tmps.getD t undef)) (x : Operand) : Rep (okOf ρ H) ρ w (ev T x) (a.eval x) := by
  cases x with
  | tmp t => exact h t
  | const x => exact .v x
  | global g => exact .v _
  | func f => exact .clo f [] [] rfl (fun j u x h => by simp at h)
theorem rep_v {ok : Nat → Prop} {ρ : Rho} {w : World} {x y : Value} (h : Rep ok ρ w (.v x) y) : y = x := by cases h; rfl
theorem AW.cond {c : Operand} {x y : Code} (b : Bool) (hc : ev T c = .v (.bool b)) (ht : b = true → AW P n x Q T H) (hf : b = false → AW P n y Q T H) : AW P n (.cond c x y) Q T H := by
  intro E a w hi
  obtain ⟨ρ, h1, h2, h3⟩ := hi.rel
  have := ev_rep h3 c
  rw [hc] at this
  have hb := rep_v this
  refine wpIn_cond_split hb (fun h => ht h E a w hi) (fun h => hf h E a w hi)
theorem AW.loop {c : Code} (I : Nat → Sl → Hp → Prop) (m : Nat) (h0 : I m T H)
    (round : ∀ m T H, I m T H → AW P n c (thenA (fun T' H' => ∃ m', m' < m ∧ I m' T' H') Q) T H) : AW P n (.loop c) Q T H := by
  intro E a w hi
  refine wpIn_loop_ghost (fun m a w => ∃ T H, I m T H ∧ Inv E n T H a w) m ⟨T, H, h0, hi⟩ ?_
  rintro m a w ⟨T, H, hI, hi⟩
  refine wpIn_mono (round m T H hI E a w hi) ?_
  intro e a' w' hq
  cases e with
  | normal =>
    obtain ⟨T1, H1, hi1, m', hlt, hI1⟩ := hq
    exact ⟨m', hlt, T1, H1, hI1, hi1⟩
  | exit id => exact hq
  | goto l => exact hq
  | ret => exact hq
  | panic ch => exact hq.elim
  | outgrown => exact hq.elim
theorem AW.region_lit {id : Nat} {l : List Oper} (h : AOps P n l.toArray Q l T H) : AW P n (.region id l.toArray false) Q T H :=
  fun E a w hi => wpIn_region_lit (h E a w hi)
theorem AOps.nil {ops : Array Oper} (h : Q .normal T H) : AOps P n ops Q [] T H := fun _ _ _ hi => ⟨T, H, hi, h⟩
def upd (T : Sl) (d : Nat) (u : AV) : Sl := fun t => if t = d then u else T t
def putD (n : Nat) (T : Sl) (d : Option Nat) (u : AV) : Sl := match d with
  | some d => if d < n then upd T d u else T
  | none => T
theorem rep_put {ok : Nat → Prop} {ρ : Rho} {w : World} {a : Act} {u : AV} {x : Value} (hn : a.tmps.size = n) (h : ∀ t, Rep ok ρ w (T t) (a.tmps.getD t undef)) (d : Option Nat) (hx : Rep ok ρ w u x) :
    ∀ t, Rep ok ρ w (putD n T d u t) ((a.put d x).tmps.getD t undef) := by
  intro t
  cases d with
  | none => exact h t
  | some d =>
    simp only [putD, Act.put]
    by_cases hd : d < n
    · rw [if_pos hd]
      unfold upd
      by_cases ht : t = d
      · subst ht
        rw [if_pos rfl]
        have : (a.tmps.setIfInBounds t x).getD t undef = x := by simp [Array.getD, hn, hd]
        rw [this]; exact hx
      · rw [if_neg ht]
        have : (a.tmps.setIfInBounds d x).getD t undef = a.tmps.getD t undef := by
          rw [Array.getD_eq_getD_getElem?, Array.getD_eq_getD_getElem?, Array.getElem?_setIfInBounds_ne (Ne.symm ht)]
        rw [this]; exact h t
    · rw [if_neg hd]
      have : a.tmps.setIfInBounds d x = a.tmps := by
        apply Array.ext_getElem?
        intro i
        rw [Array.getElem?_setIfInBounds]
        split
        · rename_i hi; subst hi; rw [if_neg (by omega), Array.getElem?_eq_none (by omega)]
        · rfl
      rw [this]; exact h t
/-- What an operation does: its result, the heap behind it. -/
def Does (P : Program) (n : Nat) (ops : Array Oper) (o : Oper) (T : Sl) (H : Hp) (K : AV → Hp → Prop) : Prop :=
  ∀ (a : Act) (w : World) (ρ : Rho), a.tmps.size = n → a.defers = a.defers → HRel ρ H w → (∀ t, Rep (okOf ρ H) ρ w (T t) (a.tmps.getD t undef)) →
    ∀ (N : Act → World → Prop) (Q : Exit → Act → World → Prop),
      (∀ x w' ρ' u H', HRel ρ' H' w' → Ext ρ H w ρ' H' w' → Rep (okOf ρ' H') ρ' w' u x → K u H' → N (a.put o.dst x) w') →
      if Region.wanted o (yielded ops a.tmps) = true then o.wp P a w N Q else N (a.put o.dst undef) w
theorem Does.mono {ops : Array Oper} {o : Oper} {K K' : AV → Hp → Prop} (h : Does P n ops o T H K) (hk : ∀ u H, K u H → K' u H) : Does P n ops o T H K' :=
  fun a w ρ h1 h2 h3 h4 N Q hN => h a w ρ h1 h2 h3 h4 N Q (fun x w' ρ' u H' a1 a2 a3 a4 => hN x w' ρ' u H' a1 a2 a3 (hk _ _ a4))
theorem AOps.cons {ops : Array Oper} {o : Oper} {rest : List Oper} (h : Does P n ops o T H (fun u H' => AOps P n ops Q rest (putD n T o.dst u) H')) : AOps P n ops Q (o :: rest) T H := by
  intro E a w hi
  obtain ⟨ρ, h1, h2, h3⟩ := hi.rel
  have hh := h a w ρ hi.size rfl h1 h3 (fun a' w' => a'.defers = a.defers ∧ wpListIn (fen Rd.r) 3 P ops (lift E n Q) rest a' w') (lift E n Q) (fun x w' ρ' u H' a1 a2 a3 a4 => ⟨put_defers _ _ _, a4 E _ w' ⟨by simp only [Act.put]; split <;> simp [hi.size], by rw [put_defers]; exact hi.defers.step h1 a2, ρ', a1, h2.trans a2, rep_put hi.size (fun t => a2.rep (h3 t)) o.dst a3⟩⟩)
  unfold wpListIn
  split
  · rename_i hw
    rw [if_pos hw] at hh
    exact wp_fen hh (fun c a w h => h)
  · rename_i hw
    rw [if_neg hw] at hh
    exact ⟨fun _ _ => trivial, hh.2⟩
/-- An operation that gives a value and turns nothing. -/
theorem Does.val {ops : Array Oper} {o : Oper} {K : AV → Hp → Prop} (u : AV) (hg : o.guard = none)
    (h : ∀ (a : Act) (w : World) (ρ : Rho), HRel ρ H w → (∀ x : Operand, Rep (okOf ρ H) ρ w (ev T x) (a.eval x)) → ∃ x, (execOp a.eval o).run P w = .ok (.value x) w ∧ Rep (okOf ρ H) ρ w u x) (hk : K u H) : Does P n ops o T H K := by
  intro a w ρ h1 h2 h3 h4 N Q hN
  rw [if_pos (by simp [Region.wanted, hg])]
  obtain ⟨x, hx, hr⟩ := h a w ρ h3 (ev_rep h4)
  unfold Oper.wp
  rw [hx]
  exact hN x w ρ u H h3 (Ext.refl _ _ _) hr hk
def Reps (ok : Nat → Prop) (ρ : Rho) (w : World) (us : List AV) (xs : List Value) : Prop :=
  us.length = xs.length ∧ ∀ (j : Nat) (u : AV) (x : Value), us[j]? = some u → xs[j]? = some x → Rep ok ρ w u x
def Bodied (P : Program) (f : FuncId) : Prop := ∃ fn, P.funcs[f]? = some fn ∧ (fn.name == "runtime.NumGoroutine") = false ∧ fn.body.isNone = false
def ACall (P : Program) (f : FuncId) (us : List AV) (H : Hp) (K : AV → Hp → Prop) : Prop :=
  Bodied P f ∧ ∀ ρ w vals, HRel ρ H w → Reps (okOf ρ H) ρ w us vals →
    Calls P f vals.toArray w fun e w' => ∃ x ρ' u H', e = .returned x ∧ HRel ρ' H' w' ∧ Ext ρ H w ρ' H' w' ∧ Rep (okOf ρ' H') ρ' w' u x ∧ K u H'
theorem ACall.mono {f : FuncId} {us : List AV} {K K' : AV → Hp → Prop} (h : ACall P f us H K) (hk : ∀ u H, K u H → K' u H) : ACall P f us H K' :=
  ⟨h.1, fun ρ w vals h1 h2 => (h.2 ρ w vals h1 h2).mono fun _ _ ⟨x, ρ', u, H', a, b, c, d, e⟩ => ⟨x, ρ', u, H', a, b, c, d, hk _ _ e⟩⟩
/-- Results behind a body. -/
inductive Res1 (P : Program) (T : Sl) (H : Hp) : ResultVar → AV → Prop
  | tmp (t : Nat) : Res1 P T H (.tmp t) (T t)
  | cell (a t id e : Nat) (l : List AV) (h1 : T a = .ptr id 0) (h2 : H id = some (.box e l)) (hd : ∃ d, P.underlying t = some d ∧ (match d with | .struct _ | .array _ _ => true | _ => false) = true) (hs : (P.info? t).map (·.size) = some l.length) : Res1 P T H (.cell a t) (.agg l)
  | cell1 (a t id e : Nat) (u : AV) (h1 : T a = .ptr id 0) (h2 : H id = some (.box e [u])) (hd : ∃ d, P.underlying t = some d ∧ (match d with | .struct _ | .array _ _ => true | _ => false) = false) : Res1 P T H (.cell a t) u
def Res (P : Program) (T : Sl) (H : Hp) (fn : Func) (u : AV) : Prop :=
  (∃ r, fn.results = #[r] ∧ Res1 P T H r u) ∨ (∃ rs us, fn.results = List.toArray rs ∧ rs.length ≠ 1 ∧ u = .tup us ∧ rs.length = us.length ∧ ∀ (j : Nat) r v, rs[j]? = some r → us[j]? = some v → Res1 P T H r v)
theorem rep_ptr_box {ρ : Rho} {w : World} {id e : Nat} {l : List AV} {x : Value} {off : Nat} (h : HRel ρ H w) (h2 : H id = some (.box e l)) (hr : Rep (okOf ρ H) ρ w (.ptr id off) x) :
    ∃ g vals, x = .pointer (some ⟨g, off, none⟩) ∧ ρ id = some (.pointer (some ⟨g, 0, none⟩)) ∧ w.heap[g]? = some (.cells (List.toArray vals) e (0, 0)) ∧ RepCells (okOf ρ H) ρ w l vals := by
  obtain ⟨v, hv, g, vals, rfl, hg, hc⟩ := h.ob id _ h2
  cases hr with
  | ptr _ _ g' x' hx hx' =>
    rw [hv] at hx
    cases hx
    rcases hx' with h3 | ⟨_, _, h3⟩
    · cases h3
      exact ⟨g, vals, rfl, hv, hg, hc⟩
    · cases h3
theorem rep_agg_cells {ok : Nat → Prop} {ρ : Rho} {w : World} {l : List AV} {vals : List Value} (h : RepCells ok ρ w l vals) : Rep ok ρ w (.agg l) (.agg vals.toArray) :=
  .agg l vals h.1 (fun j u x a b => (h.2 j u x a b).1)
def resOne (tmps : Array Value) : ResultVar → Sem Value
  | .tmp t => pure (tmps.getD t undef)
  | .cell a t => do loadVar t (← asAddr (tmps.getD a undef))
theorem results_eq (fn : Func) (tmps : Array Value) : results fn tmps = (do let vs ← fn.results.mapM (resOne tmps); pure (if h : vs.size = 1 then vs[0] else .tuple vs)) := by
  unfold results
  congr 1
theorem res1_run {ρ : Rho} {w : World} {a : Act} {r : ResultVar} {u : AV} (h : HRel ρ H w) (hT : ∀ t, Rep (okOf ρ H) ρ w (T t) (a.tmps.getD t undef)) (hr : Res1 P T H r u) :
    ∃ x, (resOne a.tmps r).run P w = .ok x w ∧ Rep (okOf ρ H) ρ w u x := by
  cases hr with
  | tmp t => exact ⟨_, rfl, hT t⟩
  | cell ad t id e l h1 h2 hd hs =>
    have := hT ad
    rw [h1] at this
    obtain ⟨g, vals, hx, _, hg, hc⟩ := rep_ptr_box h h2 this
    obtain ⟨d, hd, hd2⟩ := hd
    refine ⟨.agg vals.toArray, ?_, rep_agg_cells hc⟩
    simp only [resOne, hx, asAddr]
    have h5 := run_loadVar_row (P := P) w g e t vals.toArray (0, 0) _ hg hd (by cases d <;> first | rfl | cases hd2) (by rw [hs, hc.1]; simp)
    simpa using h5
  | cell1 ad t id e u h1 h2 hd =>
    have := hT ad
    rw [h1] at this
    obtain ⟨g, vals, hx, _, hg, hc⟩ := rep_ptr_box h h2 this
    obtain ⟨d, hd, hd2⟩ := hd
    obtain ⟨v, rfl⟩ : ∃ v, vals = [v] := List.length_eq_one_iff.1 (by rw [← hc.1]; rfl)
    refine ⟨v, ?_, (hc.2 0 u v rfl rfl).1⟩
    simp only [resOne, hx, asAddr]
    have hcell : w.cell? ⟨g, 0, none⟩ = some v := by simp [World.cell?, hg]
    have hu := run_underlying (w := w) hd
    cases d <;> simp_all [loadVar, isAgg, go_sem]
theorem ACall.of_body {f : FuncId} {us : List AV} {K : AV → Hp → Prop} {fn : Func} {c : Code} (hf : P.funcs[f]? = some fn) (hname : (fn.name == "runtime.NumGoroutine") = false) (hb : fn.body = some c)
    (hn : us.length + (fn.ntmps - us.length) = n) (h : @AW rd0 P n c (fun e T' H' => (match e with | .normal | .ret => True | _ => False) ∧ ∃ u H2, Res P T' H' fn u ∧ Sub H2 H' ∧ K u H2) (fun t => us.getD t .any) H) : ACall P f us H K := by
  subst hn
  refine ⟨⟨fn, hf, hname, by rw [hb]; rfl⟩, ?_⟩
  intro ρ w vals hr ha
  refine (callsIn_wide (n := 3)).1 (callsIn_of_wp_marks hf hb trivial ?_)
  have hi : Inv ⟨ρ, H, w⟩ (us.length + (fn.ntmps - us.length)) (fun t => us.getD t .any) H { tmps := vals.toArray ++ Array.replicate (fn.ntmps - vals.toArray.size) undef, defers := [] } w := by
    refine ⟨by simp [ha.1], .none, ρ, hr, Ext.refl _ _ _, fun t => ?_⟩
    by_cases ht : t < us.length
    · have h1 : us[t]? = some us[t] := List.getElem?_eq_getElem ht
      have ht' : t < vals.length := by rw [← ha.1]; exact ht
      have h2 : vals[t]? = some vals[t] := List.getElem?_eq_getElem ht'
      have h3 := ha.2 t _ _ h1 h2
      have e1 : us.getD t .any = us[t] := by simp [List.getD_eq_getElem?_getD, h1]
      have e2 : (vals.toArray ++ Array.replicate (fn.ntmps - vals.toArray.size) undef).getD t undef = vals[t] := by
        rw [Array.getD_eq_getD_getElem?, Array.getElem?_append_left (by simpa using ht')]
        simp [ht']
      show Rep _ _ _ (us.getD t .any) _
      rw [e1, e2]; exact h3
    · have e1 : us.getD t .any = .any := by simp [List.getD_eq_getElem?_getD, List.getElem?_eq_none (Nat.le_of_not_lt ht)]
      show Rep _ _ _ (us.getD t .any) _
      rw [e1]; exact .any _
  refine wpIn_mono (h _ _ _ hi) ?_
  intro e a' w' hh
  have fin : ∀ T' H' ρ' w', HRel ρ' H' w' → Ext ρ H w ρ' H' w' → (∀ t, Rep (okOf ρ' H') ρ' w' (T' t) (a'.tmps.getD t undef)) → (∃ u H2, Res P T' H' fn u ∧ Sub H2 H' ∧ K u H2) →
      ∃ v, (results fn a'.tmps).run P w' = .ok v w' ∧ ∃ x ρ' u H', Ending.returned v = .returned x ∧ HRel ρ' H' w' ∧ Ext ρ H w ρ' H' w' ∧ Rep (okOf ρ' H') ρ' w' u x ∧ K u H' := by
    intro T' H' ρ' w' h1 h2 h3 ⟨u, H2, hres, hs, hK⟩
    have hE := Ext.drop (ρ := ρ') hs w'
    rcases hres with ⟨r, hr1, hr2⟩ | ⟨rs, us', hr1, hlen, rfl, hl, hr2⟩
    · obtain ⟨x, hx, hrep⟩ := res1_run (a := a') h1 h3 hr2
      refine ⟨x, ?_, x, ρ', u, H2, rfl, h1.drop hs, h2.trans hE, hE.rep hrep, hK⟩
      rw [results_eq, hr1]
      simp [go_sem, hx]
    · have hall : ∀ (rs : List ResultVar) (us' : List AV), rs.length = us'.length → (∀ (j : Nat) r v, rs[j]? = some r → us'[j]? = some v → Res1 P T' H' r v) →
          ∃ xs : List Value, (rs.mapM (resOne a'.tmps)).run P w' = Result.ok xs w' ∧ us'.length = xs.length ∧ ∀ (j : Nat) v x, us'[j]? = some v → xs[j]? = some x → Rep (okOf ρ' H') ρ' w' v x := by
        intro rs
        induction rs with
        | nil => intro us' hl _; cases us' with | nil => exact ⟨[], rfl, rfl, fun j v x h => by simp at h⟩ | cons _ _ => simp at hl
        | cons r rs ih =>
          intro us' hl hr
          cases us' with
          | nil => simp at hl
          | cons u0 us' =>
            obtain ⟨x, hx, hrep⟩ := res1_run (a := a') h1 h3 (hr 0 r u0 rfl rfl)
            obtain ⟨xs, hxs, hl2, hreps⟩ := ih us' (by simpa using hl) (fun j r v hj hv => hr (j + 1) r v (by simpa using hj) (by simpa using hv))
            refine ⟨x :: xs, ?_, by simp [hl2], fun j v y hv hy => ?_⟩
            · rw [List.mapM_cons]
              simp [go_sem, hx, hxs]
            · cases j with
              | zero => simp at hv hy; subst hv hy; exact hrep
              | succ j => exact hreps j v y (by simpa using hv) (by simpa using hy)
      obtain ⟨xs, hxs, hl2, hreps⟩ := hall rs us' hl hr2
      refine ⟨.tuple xs.toArray, ?_, _, ρ', .tup us', H2, rfl, h1.drop hs, h2.trans hE, hE.rep (.tup us' xs hl2 hreps), hK⟩
      rw [results_eq, hr1, List.mapM_toArray]
      have : xs.length ≠ 1 := by rw [← hl2, ← hl]; exact hlen
      simp [go_sem, hxs, this]
  have fin2 : ∀ T' H' w', Inv ⟨ρ, H, w⟩ (us.length + (fn.ntmps - us.length)) T' H' a' w' → (∃ u H2, Res P T' H' fn u ∧ Sub H2 H' ∧ K u H2) →
      LeavesInM Fence.wide 3 P fn a'.tmps (fun e w' => ∃ x ρ' u H', e = .returned x ∧ HRel ρ' H' w' ∧ Ext ρ H w ρ' H' w' ∧ Rep (okOf ρ' H') ρ' w' u x ∧ K u H') a'.defers .returning w' := by
    intro T' H' w' hi' hq
    obtain ⟨ρ', h1, h2, h3⟩ := hi'.rel
    obtain ⟨Ds, hd, hnd, hD⟩ := hi'.defers
    rw [hd]
    clear hd hi'
    induction Ds generalizing w' with
    | nil => exact fin T' H' ρ' w' h1 h2 h3 hq
    | cons D Ds ih =>
      have hD0 := hD D (List.mem_cons_self ..)
      have k := keeps_shut h1 hD0.2
      refine ⟨by simp, .inl ⟨D, _, rfl, run_takeDeferred hD0.2, ?_⟩⟩
      refine ih _ (h1.off k) ⟨k.os.trans h2.os, k.tape.trans h2.tape, k.output.trans h2.output, Nat.le_trans h2.size k.size, fun j hj hn => ?_, h2.own, h2.rho⟩ (fun t => (h3 t).off k.cell k.size) (List.nodup_cons.1 hnd).2 (fun D' hD' => ⟨(hD D' (List.mem_cons_of_mem _ hD')).1, ?_⟩)
      · rw [World.putObj_heap_other (fun e => by subst e; exact absurd hj (by have : w.heap.size ≤ j := hD0.1; omega))]
        exact h2.block j hj hn
      · rw [World.putObj_heap_other (fun e => by subst e; exact (List.nodup_cons.1 hnd).1 hD')]
        exact (hD D' (List.mem_cons_of_mem _ hD')).2
  cases e with
  | normal => obtain ⟨T', H', hi', _, hq⟩ := hh; exact fin2 T' H' _ hi' hq
  | ret => obtain ⟨T', H', hi', _, hq⟩ := hh; exact fin2 T' H' _ hi' hq
  | exit id => obtain ⟨T', H', hi', hf, _⟩ := hh; exact hf.elim
  | goto l => obtain ⟨T', H', hi', hf, _⟩ := hh; exact hf.elim
  | panic ch => exact hh.elim
  | outgrown => exact hh.elim
end
end Go.Eng
end
section
namespace Go.Eng
open Go Go.RowKit
section
variable {P : Program} {n : Nat} {T : Sl} {H : Hp} {ops : Array Oper} {o : Oper} {K : AV → Hp → Prop}
theorem Does.move {x : Operand} (hg : o.guard = none) (ho : o.op = .move x) (hk : K (ev T x) H) : Does P n ops o T H K :=
  Does.val _ hg (fun a w ρ _ hr => ⟨a.eval x, by simp [execOp, ho, go_sem], hr x⟩) hk
theorem Does.assign {x : Operand} (hg : o.guard = none) (ho : o.op = .assign x) (hk : K (ev T x) H) : Does P n ops o T H K :=
  Does.val _ hg (fun a w ρ _ hr => ⟨a.eval x, by simp [execOp, ho, go_sem], hr x⟩) hk
theorem below_alloc (w : World) (o : Obj) : Below w.heap.size w (w.alloc o) := (Below.refl _ _).alloc (Nat.le_refl _) o
theorem heap_alloc_new (w : World) (o : Obj) : (w.alloc o).heap[w.heap.size]? = some o := by unfold World.alloc; simp
theorem size_alloc (w : World) (o : Obj) : (w.alloc o).heap.size = w.heap.size + 1 := by unfold World.alloc; simp
/-- New memory, whatever the operation. -/
theorem Does.newOb {T : Sl} (hg : o.guard = none)
    (h : ∀ (a : Act) (w : World) (ρ : Rho), HRel ρ H w → (∀ x : Operand, Rep (okOf ρ H) ρ w (ev T x) (a.eval x)) → ∃ x v w' ob, (execOp a.eval o).run P w = .ok (.value x) w' ∧ Below w.heap.size w w' ∧ (∀ k, blk v = some k → w.heap.size ≤ k ∧ k < w'.heap.size) ∧
      (∀ ρ' H', Ext ρ H w ρ' H' w' → ObRel (okOf ρ' H') ρ' w' v ob) ∧ (∀ id, H id = none → ∃ u, (∀ ok' ρ', ρ' id = some v → Rep ok' ρ' w' u x) ∧ K u (set H id (some ob)))) : Does P n ops o T H K := by
  intro a w ρ h1 h2 h3 h4 N Q hN
  rw [if_pos (by simp [Region.wanted, hg])]
  obtain ⟨x, v, w', ob, hx, hb, hv, hob, hu⟩ := h a w ρ h3 (ev_rep h4)
  obtain ⟨id, ρ', e1, e2, e3, e4, e5⟩ := h3.new v ob hb hv hob
  obtain ⟨u, hu1, hu2⟩ := hu id e2
  unfold Oper.wp
  rw [hx]
  exact hN x w' ρ' u _ e4 e5 (hu1 _ _ e3) hu2
def flat : AV → List AV
  | .agg l => l
  | u => [u]
def cellAV : AV → Bool
  | .agg _ | .tup _ | .any => false
  | .v x => x.oneCell'
  | _ => true
theorem cellAV_one {ok : Nat → Prop} {ρ : Rho} {w : World} {u : AV} {x : Value} (h : Rep ok ρ w u x) (hu : cellAV u = true) : x.oneCell' = true := by
  cases h <;> simp_all [cellAV, Value.oneCell']
theorem cells_one {x : Value} (h : x.oneCell' = true) : x.cells = #[x] := by cases x <;> simp_all [Value.oneCell', Value.cells]
/-- The cells of a value. -/
theorem rep_flat {ok : Nat → Prop} {ρ : Rho} {w : World} {u : AV} {x : Value} (h : Rep ok ρ w u x) (hu : (flat u).all cellAV = true) : RepCells ok ρ w (flat u) x.cells.toList := by
  have one : ∀ {u : AV}, Rep ok ρ w u x → flat u = [u] → cellAV u = true → RepCells ok ρ w (flat u) x.cells.toList := by
    intro u h hf hc
    have h1 := cellAV_one h hc
    rw [hf, cells_one h1]
    exact ⟨rfl, fun j u' x' hu hx => by
      cases j with
      | zero => simp at hu hx; subst hu hx; exact ⟨h, h1⟩
      | succ j => simp at hu⟩
  cases h with
  | agg l vs hl hr =>
    refine ⟨by simpa [flat, Value.cells] using hl, fun j u x h1 h2 => ?_⟩
    have h3 : vs[j]? = some x := by simpa [Value.cells] using h2
    have h4 := hr j u x h1 h3
    exact ⟨h4, cellAV_one h4 (List.all_eq_true.1 hu u (List.mem_of_getElem? h1))⟩
  | tup l vs hl hr => simp [flat, cellAV] at hu
  | any x => simp [flat, cellAV] at hu
  | v x => exact one (.v x) rfl (by simpa [flat] using hu)
  | nil => exact one .nil rfl rfl
  | sl rows a cap sz vals h1 h2 h3 h4 h5 h6 => exact one (.sl rows a cap sz vals h1 h2 h3 h4 h5 h6) rfl rfl
  | rp cells a vals h1 h2 h3 => exact one (.rp cells a vals h1 h2 h3) rfl rfl
  | own0 id sz h => exact one (.own0 id sz h) rfl rfl
  | own id off len sz g n cap h h1 h2 => exact one (.own id off len sz g n cap h h1 h2) rfl rfl
  | ownE id off sz g n cap o' c' h h0 hm => exact one (.ownE id off sz g n cap o' c' h h0 hm) rfl rfl
  | ptr id off g x h hx => exact one (.ptr id off g x h hx) rfl rfl
  | clo f caps vs h1 h2 => exact one (.clo f caps vs h1 h2) rfl rfl
  | ifc t u x h => exact one (.ifc t u x h) rfl rfl
  | bsl id off len g cap h h1 h2 => exact one (.bsl id off len g cap h h1 h2) rfl rfl
  | mpr id g h => exact one (.mpr id g h) rfl rfl
theorem box_rel {ρ : Rho} {w : World} {cs : Array Value} {t : Nat} (w' : World) (hw : w' = w.alloc (.cells cs t)) {us : List AV} (h : RepCells (okOf ρ H) ρ w us cs.toList) :
    ∀ ρ' H', Ext ρ H w ρ' H' w' → ObRel (okOf ρ' H') ρ' w' (.pointer (some ⟨w.heap.size, 0, none⟩)) (.box t us) := by
  intro ρ' H' e
  subst hw
  exact ⟨w.heap.size, cs.toList, rfl, by simpa using heap_alloc_new w _, e.cells h⟩
theorem Does.box {e : TypeId} {x : Operand} (hg : o.guard = none) (ho : o.op = .box e x) (hc : (flat (ev T x)).all cellAV = true)
    (hk : ∀ id, H id = none → K (.ptr id 0) (set H id (some (.box e (flat (ev T x)))))) : Does P n ops o T H K := by
  refine Does.newOb hg fun a w ρ h hr => ?_
  refine ⟨.pointer (some ⟨w.heap.size, 0, none⟩), .pointer (some ⟨w.heap.size, 0, none⟩), w.alloc (.cells (a.eval x).cells e), .box e (flat (ev T x)), ?_, below_alloc _ _, ?_, box_rel _ rfl (rep_flat (hr x) hc), ?_⟩
  · simp [execOp, ho, go_sem, Instr.box, newVar, newRow]
  · intro k hk; cases hk; rw [size_alloc]; simp
  · intro id hid
    exact ⟨.ptr id 0, fun ok' ρ' h => .ptr id 0 _ _ h (.inl rfl), hk id hid⟩
theorem repcells_v {ok : Nat → Prop} {ρ : Rho} {w : World} (vs : List Value) (h : vs.all (·.oneCell') = true) : RepCells ok ρ w (vs.map .v) vs :=
  ⟨by simp, fun j u x h1 h2 => by
    rw [List.getElem?_map, h2] at h1
    cases h1
    exact ⟨.v x, List.all_eq_true.1 h x (List.mem_of_getElem? h2)⟩⟩
theorem Does.alloc {e : TypeId} {z : Value} (hg : o.guard = none) (ho : o.op = .alloc e) (hz : (P.info? e).map (·.zero) = some (some z)) (hc : z.cells.toList.all (·.oneCell') = true)
    (hk : ∀ id, H id = none → K (.ptr id 0) (set H id (some (.box e (z.cells.toList.map .v))))) : Does P n ops o T H K := by
  refine Does.newOb hg fun a w ρ h hr => ?_
  refine ⟨.pointer (some ⟨w.heap.size, 0, none⟩), .pointer (some ⟨w.heap.size, 0, none⟩), w.alloc (.cells z.cells e), .box e (z.cells.toList.map .v), ?_, below_alloc _ _, ?_, box_rel _ rfl (repcells_v _ hc), ?_⟩
  · obtain ⟨i, hi, hz⟩ := Option.map_eq_some_iff.1 hz
    simp [execOp, ho, go_sem, Instr.alloc, newVar, newRow, zeroValue, typeInfo, hi, hz]
  · intro k hk; cases hk; rw [size_alloc]; simp
  · intro id hid
    exact ⟨.ptr id 0, fun ok' ρ' h => .ptr id 0 _ _ h (.inl rfl), hk id hid⟩
def cellsOf : Ob → List AV
  | .box _ l => l
  | .row _ _ rows => rows.flatten
  | .iter _ _ => []
  | .rowc _ _ rows _ => rows.flatten
  | .raw _ _ => []
  | .mp _ => []
def memOb : Ob → Bool
  | .iter _ _ => false
  | .rowc _ _ _ _ => false
  | .raw _ _ => false
  | .mp _ => false
  | _ => true
theorem ptr_cells {ρ : Rho} {w : World} {id off : Nat} {ob : Ob} {x : Value} (h : HRel ρ H w) (h2 : H id = some ob) (hr : Rep (okOf ρ H) ρ w (.ptr id off) x) (hm : memOb ob = true := by rfl) :
    ∃ g vals v, x = .pointer (some ⟨g, off, none⟩) ∧ ρ id = some v ∧ blk v = some g ∧ RepCells (okOf ρ H) ρ w (cellsOf ob) vals ∧ (∀ j y, vals[j]? = some y → w.cell? ⟨g, j, none⟩ = some y) ∧ (∃ cur t, w.heap[g]? = some (.cells cur t (0, 0)) ∧ cur.toList.take vals.length = vals) := by
  obtain ⟨v, hv, hob⟩ := h.ob id _ h2
  cases hr with
  | ptr _ _ g' x' hx hx' =>
    rw [hv] at hx
    cases hx
    cases ob with
    | iter s pos => cases hm
    | rowc _ _ _ _ => cases hm
    | raw _ _ => cases hm
    | mp _ => cases hm
    | box t l =>
      obtain ⟨g, vals, rfl, hg, hc⟩ := hob
      rcases hx' with h3 | ⟨_, _, h3⟩
      · cases h3
        exact ⟨_, vals, _, rfl, hv, rfl, hc, fun j y hj => by simp [World.cell?, hg, hj], _, _, hg, by simp⟩
      · cases h3
    | row e sz rows =>
      obtain ⟨h0, inner, ho, hl, hc⟩ := hob
      rcases hx' with h3 | ⟨_, _, h3⟩
      · subst h3
        rcases ho.2 with ⟨h4, _⟩ | ⟨_, _, _, h4, _⟩ <;> cases h4
      · subst h3
        rcases ho.2 with ⟨h4, _⟩ | ⟨g, cap, cur, h4, _, hg, h5, h6, h7, h8⟩
        · cases h4
        · cases h4
          refine ⟨_, inner, _, rfl, hv, rfl, hc, fun j y hj => ?_, cur, e, hg, by rw [← h8, List.length_take]; simp⟩
          have hj2 : cur[j]? = some y := by
            rw [← h8, List.getElem?_take] at hj
            split at hj
            · simpa using hj
            · cases hj
          simp [World.cell?, hg, hj2]
def isAggD : TypeDesc → Bool
  | .struct _ | .array _ _ => true
  | _ => false
/-- A type's shape: is it a struct or an array; how many cells. -/
def tyOf (P : Program) (t : TypeId) : Option (Bool × Nat) :=
  match P.underlying t, P.info? t with
  | some d, some i => some (isAggD d, i.size)
  | _, _ => none
theorem tyOf_some {t : TypeId} {b : Bool} {s : Nat} (h : tyOf P t = some (b, s)) : ∃ d i, P.underlying t = some d ∧ P.info? t = some i ∧ isAggD d = b ∧ i.size = s := by
  unfold tyOf at h
  split at h
  · cases h; exact ⟨_, _, by assumption, by assumption, rfl, rfl⟩
  · cases h
theorem run_loadVar_cells {t : TypeId} {w : World} {a : Addr} {vs : List Value} (ht : tyOf P t = some (true, vs.length)) (hc : ∀ j v, vs[j]? = some v → w.cell? (a.add j) = some v) :
    (loadVar t a).run P w = .ok (.agg vs.toArray) w := by
  obtain ⟨d, i, hd, hi, hb, hs⟩ := tyOf_some ht
  have h1 := run_underlying (w := w) hd
  have h2 := run_loadCells_list (P := P) (w := w) a vs hc
  have h3 : (isAgg t).run P w = .ok true w := by
    cases d <;> simp_all [isAgg, isAggD, go_sem]
  have h4 : (sizeOf t).run P w = .ok vs.length w := by simp [sizeOf, typeInfo, hi, hs, go_sem]
  unfold loadVar
  simp only [Sem.run_bind, h3, Result.andThen_ok, if_true, h4, h2, Sem.run_pure]
theorem run_loadVar_one {t : TypeId} {s : Nat} {w : World} {a : Addr} {v : Value} (ht : tyOf P t = some (false, s)) (hc : w.cell? a = some v) :
    (loadVar t a).run P w = .ok v w := by
  obtain ⟨d, i, hd, hi, hb, hs⟩ := tyOf_some ht
  have h1 := run_underlying (w := w) hd
  have h3 : (isAgg t).run P w = .ok false w := by
    cases d <;> simp_all [isAgg, isAggD, go_sem]
  unfold loadVar
  simp only [Sem.run_bind, h3, Result.andThen_ok, Bool.false_eq_true, if_false]
  simp [go_sem, hc]
theorem run_op_load {a : Act} {w : World} {t : TypeId} {x : Operand} {ad : Addr} {v : Value} (ho : o.op = .load t x) (hx : a.eval x = .pointer (some ad)) (h5 : (loadVar t ad).run P w = .ok v w) : (execOp a.eval o).run P w = .ok (.value v) w := by
  unfold execOp
  rw [ho]
  simp only [Instr.loadAt, Instr.sureAddr, hx, Sem.run_bind, Sem.run_pure, Result.andThen_ok, h5]
theorem repcells_get {ok : Nat → Prop} {ρ : Rho} {w : World} {us : List AV} {xs : List Value} (h : RepCells ok ρ w us xs) {j : Nat} {u : AV} (hj : us[j]? = some u) : ∃ x, xs[j]? = some x ∧ Rep ok ρ w u x ∧ x.oneCell' = true := by
  have hlt : j < xs.length := by rw [← h.1]; exact (List.getElem?_eq_some_iff.1 hj).1
  have hx := List.getElem?_eq_getElem hlt
  exact ⟨_, hx, h.2 j u _ hj hx⟩
theorem repcells_sub {ok : Nat → Prop} {ρ : Rho} {w : World} {us : List AV} {xs : List Value} (h : RepCells ok ρ w us xs) (off s : Nat) : RepCells ok ρ w ((us.drop off).take s) ((xs.drop off).take s) :=
  ⟨by simp [h.1], fun j u x h1 h2 => by
    rw [List.getElem?_take] at h1 h2
    split at h1
    · rename_i hj
      rw [if_pos hj] at h2
      rw [List.getElem?_drop] at h1 h2
      exact h.2 _ u x h1 h2
    · cases h1⟩
theorem Does.load_agg {t : TypeId} {x : Operand} {id off : Nat} {ob : Ob} {s : Nat} (hg : o.guard = none) (ho : o.op = .load t x) (hx : ev T x = .ptr id off) (h2 : H id = some ob)
    (ht : tyOf P t = some (true, s)) (hs : off + s ≤ (cellsOf ob).length) (hk : K (.agg (((cellsOf ob).drop off).take s)) H) (hm : memOb ob = true := by rfl) : Does P n ops o T H K := by
  refine Does.val _ hg (fun a w ρ h hr => ?_) hk
  have h3 := hr x
  rw [hx] at h3
  obtain ⟨g, vals, v, hx2, _, _, hc, hcell, _⟩ := ptr_cells h h2 h3 hm
  have hl : ((vals.drop off).take s).length = s := by simp [← hc.1]; omega
  refine ⟨.agg ((vals.drop off).take s).toArray, ?_, rep_agg_cells (repcells_sub hc off s)⟩
  have h5 := run_loadVar_cells (P := P) (t := t) (w := w) (a := ⟨g, off, none⟩) (vs := (vals.drop off).take s) (by rw [hl]; exact ht) (fun j y hj => by
    rw [add_plain]
    rw [List.getElem?_take] at hj
    split at hj
    · rw [List.getElem?_drop] at hj; exact hcell _ _ hj
    · cases hj)
  exact run_op_load ho hx2 h5
theorem Does.load_cell {t : TypeId} {x : Operand} {id off : Nat} {ob : Ob} {s : Nat} {u : AV} (hg : o.guard = none) (ho : o.op = .load t x) (hx : ev T x = .ptr id off) (h2 : H id = some ob)
    (ht : tyOf P t = some (false, s)) (hs : (cellsOf ob)[off]? = some u) (hk : K u H) (hm : memOb ob = true := by rfl) : Does P n ops o T H K := by
  refine Does.val _ hg (fun a w ρ h hr => ?_) hk
  have h3 := hr x
  rw [hx] at h3
  obtain ⟨g, vals, v, hx2, _, _, hc, hcell, _⟩ := ptr_cells h h2 h3 hm
  obtain ⟨y, hy, hrep, _⟩ := repcells_get hc hs
  refine ⟨y, ?_, hrep⟩
  have h5 := run_loadVar_one (P := P) (t := t) (w := w) (a := ⟨g, off, none⟩) ht (hcell off y hy)
  exact run_op_load ho hx2 h5
theorem rp_cells {ok : Nat → Prop} {ρ : Rho} {w : World} {cells : List AV} {x : Value} (hr : Rep ok ρ w (.rp cells) x) :
    ∃ a vals, x = .pointer (some a) ∧ RepCells ok ρ w cells vals ∧ ∀ j y, vals[j]? = some y → w.cell? (a.add j) = some y := by
  cases hr with
  | rp _ a vals hok hc hr =>
    refine ⟨a, (List.range cells.length).map vals, rfl, ⟨by simp, fun j u x h1 h2 => ?_⟩, fun j y hj => ?_⟩
    · have hlt := (List.getElem?_eq_some_iff.1 h1).1
      simp [hlt] at h2
      subst h2
      exact ⟨hr j u h1, (hc j hlt).2⟩
    · have hlt : j < cells.length := by have := (List.getElem?_eq_some_iff.1 hj).1; simpa using this
      have h1 : vals j = y := by simpa [hlt] using hj
      subst h1
      exact (hc j hlt).1
theorem Does.load_rp_agg {t : TypeId} {x : Operand} {cells : List AV} (hg : o.guard = none) (ho : o.op = .load t x) (hx : ev T x = .rp cells)
    (ht : tyOf P t = some (true, cells.length)) (hk : K (.agg cells) H) : Does P n ops o T H K := by
  refine Does.val _ hg (fun a w ρ h hr => ?_) hk
  have h3 := hr x
  rw [hx] at h3
  obtain ⟨ad, vals, hx2, hc, hcell⟩ := rp_cells h3
  refine ⟨.agg vals.toArray, ?_, rep_agg_cells hc⟩
  have h5 := run_loadVar_cells (P := P) (t := t) (w := w) (a := ad) (vs := vals) (by rw [← hc.1]; exact ht) hcell
  exact run_op_load ho hx2 h5
theorem add_zero' (a : Addr) : a.add 0 = a := by simp [Addr.add]
theorem Does.load_rp_cell {t : TypeId} {x : Operand} {u : AV} {cells : List AV} {s : Nat} (hg : o.guard = none) (ho : o.op = .load t x) (hx : ev T x = .rp (u :: cells))
    (ht : tyOf P t = some (false, s)) (hk : K u H) : Does P n ops o T H K := by
  refine Does.val _ hg (fun a w ρ h hr => ?_) hk
  have h3 := hr x
  rw [hx] at h3
  obtain ⟨ad, vals, hx2, hc, hcell⟩ := rp_cells h3
  obtain ⟨y, hy, hrep, _⟩ := repcells_get hc (j := 0) rfl
  refine ⟨y, ?_, hrep⟩
  have h6 := hcell 0 y hy
  rw [add_zero'] at h6
  have h5 := run_loadVar_one (P := P) (t := t) (w := w) (a := ad) ht h6
  exact run_op_load ho hx2 h5
end
end Go.Eng
end
