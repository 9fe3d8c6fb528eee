/- The engine, second part: states, codes, loops, calls, regions in the order of the text. -/
import Derived.Test.YtopaddebalfoeaaE0
namespace Go.Eng
open Go Go.RowKit

structure Ent where
  ρ : Rho
  H : Hp
  w : World
abbrev Sl := Nat → AV

structure Inv (E : Ent) (n : Nat) (T : Sl) (H : Hp) (a : Act) (w : World) : Prop where
  size : a.tmps.size = n
  defers : a.defers = []
  rel : ∃ ρ, HRel ρ H w ∧ Ext E.ρ E.H E.w ρ H w ∧ ∀ t, Rep (okOf ρ H) ρ w (T t) (a.tmps.getD t undef)

inductive AEx where
  | normal
  | exit (id : Nat)
  | goto (l : Nat)
  | ret

def lift (E : Ent) (n : Nat) (Q : AEx → Sl → Hp → Prop) : Exit → Act → World → Prop
  | .normal, a, w => ∃ T H, Inv E n T H a w ∧ Q .normal T H
  | .exit id, a, w => ∃ T H, Inv E n T H a w ∧ Q (.exit id) T H
  | .goto l, a, w => ∃ T H, Inv E n T H a w ∧ Q (.goto l) T H
  | .ret, a, w => ∃ T H, Inv E n T H a w ∧ Q .ret T H
  | _, _, _ => False

/-- From whatever represents T and H the code ends as Q says. -/
def AW (P : Program) (n : Nat) (c : Code) (Q : AEx → Sl → Hp → Prop) (T : Sl) (H : Hp) : Prop :=
  ∀ E a w, Inv E n T H a w → c.wp P (lift E n Q) a w

def AOps (P : Program) (n : Nat) (ops : Array Oper) (Q : AEx → Sl → Hp → Prop) (rest : List Oper) (T : Sl) (H : Hp) : Prop :=
  ∀ E a w, Inv E n T H a w → wpList P ops (lift E n Q) rest a w

def thenA (N : Sl → Hp → Prop) (Q : AEx → Sl → Hp → Prop) : AEx → Sl → Hp → Prop
  | .normal, T, H => N T H
  | e, T, H => Q e T H
def inBlockA (id : Nat) (Q : AEx → Sl → Hp → Prop) : AEx → Sl → Hp → Prop
  | .exit id', T, H => if id' = id then Q .normal T H else Q (.exit id') T H
  | e, T, H => Q e T H

section
variable {P : Program} {n : Nat} {Q : AEx → Sl → Hp → Prop} {T : Sl} {H : Hp}

theorem lift_mono {E : Ent} {Q' : AEx → Sl → Hp → Prop} (h : ∀ e T H, Q e T H → Q' e T H) : ∀ e a w, lift E n Q e a w → lift E n Q' e a w := by
  intro e a w hh
  cases e <;> first | exact hh.elim | (obtain ⟨T, H, hi, hq⟩ := hh; exact ⟨T, H, hi, h _ _ _ hq⟩)

theorem AW.mono {c : Code} {Q' : AEx → Sl → Hp → Prop} (h : AW P n c Q T H) (hq : ∀ e T H, Q e T H → Q' e T H) : AW P n c Q' T H :=
  fun E a w hi => wp_mono (h E a w hi) (lift_mono hq)

theorem AW.skip (h : Q .normal T H) : AW P n .skip Q T H := fun _ _ _ hi => wp_skip ⟨T, H, hi, h⟩
theorem AW.label {l : Nat} (h : Q .normal T H) : AW P n (.label l) Q T H := fun _ _ _ hi => wp_label ⟨T, H, hi, h⟩
theorem AW.exit {id : Nat} (h : Q (.exit id) T H) : AW P n (.exit id) Q T H := fun _ _ _ hi => wp_exit ⟨T, H, hi, h⟩
theorem AW.ret (h : Q .ret T H) : AW P n .ret Q T H := fun _ _ _ hi => wp_ret ⟨T, H, hi, h⟩

theorem AW.seq {x y : Code} (h : AW P n x (thenA (AW P n y Q) Q) T H) : AW P n (.seq x y) Q T H := by
  intro E a w hi
  refine wp_seq (wp_mono (h E a w hi) ?_)
  intro e a' w' hh
  cases e with
  | normal => obtain ⟨T', H', hi', hq⟩ := hh; exact hq E a' w' hi'
  | exit id => exact hh
  | goto l => exact hh
  | ret => exact hh
  | panic ch => exact hh.elim
  | outgrown => exact hh.elim

theorem AW.block {id : Nat} {c : Code} (h : AW P n c (inBlockA id Q) T H) : AW P n (.block id c) Q T H := by
  intro E a w hi
  refine wp_block (wp_mono (h E a w hi) ?_)
  intro e a' w' hh
  cases e with
  | normal => exact hh
  | exit id' =>
    obtain ⟨T', H', hi', hq⟩ := hh
    simp only [Exit.inBlock]
    simp only [inBlockA] at hq
    split
    · rw [if_pos (by assumption)] at hq; exact ⟨T', H', hi', hq⟩
    · rw [if_neg (by assumption)] at hq; exact ⟨T', H', hi', hq⟩
  | goto l => exact hh
  | ret => exact hh
  | panic ch => exact hh.elim
  | outgrown => exact hh.elim

/-- An operand. -/
def ev (T : Sl) : Operand → AV
  | .tmp t => T t
  | .const x => .v x
  | .global g => .v (.pointer (some ⟨g, 0, none⟩))
  | .func f => .clo f []

theorem ev_rep {ρ : Rho} {H : Hp} {a : Act} {w : World} (h : ∀ t, Rep (okOf ρ H) ρ w (T t) (a.tmps.getD t undef)) (x : Operand) : Rep (okOf ρ H) ρ w (ev T x) (a.eval x) := by
  cases x with
  | tmp t => exact h t
  | const x => exact .v x
  | global g => exact .v _
  | func f => exact .clo f [] [] rfl (fun j u x h => by simp at h)

theorem rep_v {ok : Nat → Prop} {ρ : Rho} {w : World} {x y : Value} (h : Rep ok ρ w (.v x) y) : y = x := by cases h; rfl

theorem AW.cond {c : Operand} {x y : Code} (b : Bool) (hc : ev T c = .v (.bool b)) (ht : b = true → AW P n x Q T H) (hf : b = false → AW P n y Q T H) : AW P n (.cond c x y) Q T H := by
  intro E a w hi
  obtain ⟨ρ, h1, h2, h3⟩ := hi.rel
  have := ev_rep h3 c
  rw [hc] at this
  have hb := rep_v this
  refine wp_cond_split hb (fun h => ht h E a w hi) (fun h => hf h E a w hi)

/-- What is not said any more. -/
theorem AW.weaken {c : Code} {T' : Sl} {H' : Hp} (hs : Sub H' H) (hT : ∀ t, T' t = T t ∨ T' t = .any) (h : AW P n c Q T' H') : AW P n c Q T H := by
  intro E a w hi
  refine h E a w ⟨hi.size, hi.defers, ?_⟩
  obtain ⟨ρ, h1, h2, h3⟩ := hi.rel
  have hE := Ext.drop (ρ := ρ) hs w
  refine ⟨ρ, h1.drop hs, h2.trans hE, fun t => ?_⟩
  rcases hT t with e | e
  · rw [e]; exact hE.rep (h3 t)
  · rw [e]; exact .any _

theorem AW.loop {c : Code} (I : Nat → Sl → Hp → Prop) (m : Nat) (h0 : I m T H)
    (round : ∀ m T H, I m T H → AW P n c (thenA (fun T' H' => ∃ m', m' < m ∧ I m' T' H') Q) T H) : AW P n (.loop c) Q T H := by
  intro E a w hi b k cs
  have key : ∀ m T H a w, I m T H → Inv E n T H a w →
      ∃ e a' w', lift E n Q e a' w' ∧ Arrives P (lone (b.at a (.code c :: .inLoop c :: k)) cs w) b k cs e a' w' := by
    intro m
    induction m using Nat.strongRecOn with
    | _ m ih =>
      intro T H a w hI hi
      obtain ⟨e, a₁, w₁, hq, harr⟩ := round m T H hI E a w hi b (.inLoop c :: k) cs
      cases e with
      | normal =>
        obtain ⟨T1, H1, hi1, m', hlt, hI1⟩ := hq
        obtain ⟨e₂, a₂, w₂, hq₂, harr₂⟩ := ih m' hlt T1 H1 a₁ w₁ hI1 hi1
        exact ⟨e₂, a₂, w₂, hq₂, .of_steps (Steps.trans harr (.one step_inLoop)) harr₂⟩
      | exit id => exact ⟨_, a₁, w₁, (show lift E n Q (.exit id) a₁ w₁ from hq), .pass (x := .inLoop c) rfl (fun _ _ => .inl (by simp)) harr⟩
      | goto l => exact ⟨_, a₁, w₁, (show lift E n Q (.goto l) a₁ w₁ from hq), .pass (x := .inLoop c) rfl (fun _ _ => .inl (by simp)) harr⟩
      | ret => exact ⟨_, a₁, w₁, (show lift E n Q .ret a₁ w₁ from hq), .pass (x := .inLoop c) rfl (fun _ _ => .inl (by simp)) harr⟩
      | panic ch => exact hq.elim
      | outgrown => exact hq.elim
  obtain ⟨e, a', w', hq, harr⟩ := key m T H a w h0 hi
  exact ⟨e, a', w', hq, .of_steps (.one step_loop) harr⟩

theorem AW.region {id : Nat} {ops : Array Oper} (h : AOps P n ops Q ops.toList T H) : AW P n (.region id ops false) Q T H :=
  fun E a w hi => wp_region_list (h E a w hi)
theorem AW.region_lit {id : Nat} {l : List Oper} (h : AOps P n l.toArray Q l T H) : AW P n (.region id l.toArray false) Q T H :=
  fun E a w hi => wp_region_list (by simpa using h E a w hi)
theorem AOps.nil {ops : Array Oper} (h : Q .normal T H) : AOps P n ops Q [] T H := fun _ _ _ hi => ⟨T, H, hi, h⟩
theorem AOps.weaken {ops : Array Oper} {rest : List Oper} {T' : Sl} {H' : Hp} (hs : Sub H' H) (hT : ∀ t, T' t = T t ∨ T' t = .any) (h : AOps P n ops Q rest T' H') : AOps P n ops Q rest T H := by
  intro E a w hi
  refine h E a w ⟨hi.size, hi.defers, ?_⟩
  obtain ⟨ρ, h1, h2, h3⟩ := hi.rel
  have hE := Ext.drop (ρ := ρ) hs w
  refine ⟨ρ, h1.drop hs, h2.trans hE, fun t => ?_⟩
  rcases hT t with e | e
  · rw [e]; exact hE.rep (h3 t)
  · rw [e]; exact .any _

/-! one operation -/
def upd (T : Sl) (d : Nat) (u : AV) : Sl := fun t => if t = d then u else T t
def putD (n : Nat) (T : Sl) (d : Option Nat) (u : AV) : Sl := match d with
  | some d => if d < n then upd T d u else T
  | none => T

theorem rep_put {ok : Nat → Prop} {ρ : Rho} {w : World} {a : Act} {u : AV} {x : Value} (hn : a.tmps.size = n) (h : ∀ t, Rep ok ρ w (T t) (a.tmps.getD t undef)) (d : Option Nat) (hx : Rep ok ρ w u x) :
    ∀ t, Rep ok ρ w (putD n T d u t) ((a.put d x).tmps.getD t undef) := by
  intro t
  cases d with
  | none => exact h t
  | some d =>
    simp only [putD, Act.put]
    by_cases hd : d < n
    · rw [if_pos hd]
      unfold upd
      by_cases ht : t = d
      · subst ht
        rw [if_pos rfl]
        have : (a.tmps.setIfInBounds t x).getD t undef = x := by simp [Array.getD, hn, hd]
        rw [this]; exact hx
      · rw [if_neg ht]
        have : (a.tmps.setIfInBounds d x).getD t undef = a.tmps.getD t undef := by
          rw [Array.getD_eq_getD_getElem?, Array.getD_eq_getD_getElem?, Array.getElem?_setIfInBounds_ne (Ne.symm ht)]
        rw [this]; exact h t
    · rw [if_neg hd]
      have : a.tmps.setIfInBounds d x = a.tmps := by
        apply Array.ext_getElem?
        intro i
        rw [Array.getElem?_setIfInBounds]
        split
        · rename_i hi; subst hi; rw [if_neg (by omega), Array.getElem?_eq_none (by omega)]
        · rfl
      rw [this]; exact h t

/-- What an operation does: its result, the heap behind it. -/
def Does (P : Program) (n : Nat) (ops : Array Oper) (o : Oper) (T : Sl) (H : Hp) (K : AV → Hp → Prop) : Prop :=
  ∀ (a : Act) (w : World) (ρ : Rho), a.tmps.size = n → a.defers = [] → HRel ρ H w → (∀ t, Rep (okOf ρ H) ρ w (T t) (a.tmps.getD t undef)) →
    ∀ (N : Act → World → Prop) (Q : Exit → Act → World → Prop),
      (∀ x w' ρ' u H', HRel ρ' H' w' → Ext ρ H w ρ' H' w' → Rep (okOf ρ' H') ρ' w' u x → K u H' → N (a.put o.dst x) w') →
      if Region.wanted o (yielded ops a.tmps) = true then o.wp P a w N Q else N (a.put o.dst undef) w

theorem Does.mono {ops : Array Oper} {o : Oper} {K K' : AV → Hp → Prop} (h : Does P n ops o T H K) (hk : ∀ u H, K u H → K' u H) : Does P n ops o T H K' :=
  fun a w ρ h1 h2 h3 h4 N Q hN => h a w ρ h1 h2 h3 h4 N Q (fun x w' ρ' u H' a1 a2 a3 a4 => hN x w' ρ' u H' a1 a2 a3 (hk _ _ a4))

theorem AOps.cons {ops : Array Oper} {o : Oper} {rest : List Oper} (h : Does P n ops o T H (fun u H' => AOps P n ops Q rest (putD n T o.dst u) H')) : AOps P n ops Q (o :: rest) T H := by
  intro E a w hi
  obtain ⟨ρ, h1, h2, h3⟩ := hi.rel
  refine wpList_step fun K hK => ?_
  exact h a w ρ hi.size hi.defers h1 h3 K _ (fun x w' ρ' u H' a1 a2 a3 a4 => hK _ _ (a4 E _ w' ⟨by simp only [Act.put]; split <;> simp [hi.size], by simp only [Act.put]; split <;> simp [hi.defers], ρ', a1, h2.trans a2, rep_put hi.size (fun t => a2.rep (h3 t)) o.dst a3⟩))

/-- An operation that gives a value and turns nothing. -/
theorem Does.val {ops : Array Oper} {o : Oper} {K : AV → Hp → Prop} (u : AV) (hg : o.guard = none)
    (h : ∀ (a : Act) (w : World) (ρ : Rho), HRel ρ H w → (∀ x : Operand, Rep (okOf ρ H) ρ w (ev T x) (a.eval x)) → ∃ x, (execOp a.eval o).run P w = .ok (.value x) w ∧ Rep (okOf ρ H) ρ w u x) (hk : K u H) : Does P n ops o T H K := by
  intro a w ρ h1 h2 h3 h4 N Q hN
  rw [if_pos (by simp [Region.wanted, hg])]
  obtain ⟨x, hx, hr⟩ := h a w ρ h3 (ev_rep h4)
  unfold Oper.wp
  rw [hx]
  exact hN x w ρ u H h3 (Ext.refl _ _ _) hr hk

/-! calls -/
def Reps (ok : Nat → Prop) (ρ : Rho) (w : World) (us : List AV) (xs : List Value) : Prop :=
  us.length = xs.length ∧ ∀ (j : Nat) (u : AV) (x : Value), us[j]? = some u → xs[j]? = some x → Rep ok ρ w u x

def Bodied (P : Program) (f : FuncId) : Prop := ∃ fn, P.funcs[f]? = some fn ∧ (fn.name == "runtime.NumGoroutine") = false ∧ fn.body.isNone = false
def ACall (P : Program) (f : FuncId) (us : List AV) (H : Hp) (K : AV → Hp → Prop) : Prop :=
  Bodied P f ∧ ∀ ρ w vals, HRel ρ H w → Reps (okOf ρ H) ρ w us vals →
    Calls P f vals.toArray w fun e w' => ∃ x ρ' u H', e = .returned x ∧ HRel ρ' H' w' ∧ Ext ρ H w ρ' H' w' ∧ Rep (okOf ρ' H') ρ' w' u x ∧ K u H'

theorem ACall.mono {f : FuncId} {us : List AV} {K K' : AV → Hp → Prop} (h : ACall P f us H K) (hk : ∀ u H, K u H → K' u H) : ACall P f us H K' :=
  ⟨h.1, fun ρ w vals h1 h2 => (h.2 ρ w vals h1 h2).mono fun _ _ ⟨x, ρ', u, H', a, b, c, d, e⟩ => ⟨x, ρ', u, H', a, b, c, d, hk _ _ e⟩⟩

/-- Results behind a body. -/
inductive Res1 (P : Program) (T : Sl) (H : Hp) : ResultVar → AV → Prop
  | tmp (t : Nat) : Res1 P T H (.tmp t) (T t)
  | cell (a t id e : Nat) (l : List AV) (h1 : T a = .ptr id 0) (h2 : H id = some (.box e l)) (hd : ∃ fs, P.underlying t = some (.struct fs)) (hs : (P.info? t).map (·.size) = some l.length) : Res1 P T H (.cell a t) (.agg l)
  | cell1 (a t id e : Nat) (u : AV) (h1 : T a = .ptr id 0) (h2 : H id = some (.box e [u])) (hd : ∃ d, P.underlying t = some d ∧ (match d with | .struct _ | .array _ _ => true | _ => false) = false) : Res1 P T H (.cell a t) u

def Res (P : Program) (T : Sl) (H : Hp) (fn : Func) (u : AV) : Prop :=
  (∃ r, fn.results = #[r] ∧ Res1 P T H r u) ∨ (∃ rs us, fn.results = List.toArray rs ∧ rs.length ≠ 1 ∧ u = .tup us ∧ rs.length = us.length ∧ ∀ (j : Nat) r v, rs[j]? = some r → us[j]? = some v → Res1 P T H r v)

theorem rep_ptr_box {ρ : Rho} {w : World} {id e : Nat} {l : List AV} {x : Value} {off : Nat} (h : HRel ρ H w) (h2 : H id = some (.box e l)) (hr : Rep (okOf ρ H) ρ w (.ptr id off) x) :
    ∃ g vals, x = .pointer (some ⟨g, off, none⟩) ∧ ρ id = some (.pointer (some ⟨g, 0, none⟩)) ∧ w.heap[g]? = some (.cells (List.toArray vals) e (0, 0)) ∧ RepCells (okOf ρ H) ρ w l vals := by
  obtain ⟨v, hv, g, vals, rfl, hg, hc⟩ := h.ob id _ h2
  cases hr with
  | ptr _ _ g' x' hx hx' =>
    rw [hv] at hx
    cases hx
    rcases hx' with h3 | ⟨_, _, h3⟩
    · cases h3
      exact ⟨g, vals, rfl, hv, hg, hc⟩
    · cases h3

theorem rep_agg_cells {ok : Nat → Prop} {ρ : Rho} {w : World} {l : List AV} {vals : List Value} (h : RepCells ok ρ w l vals) : Rep ok ρ w (.agg l) (.agg vals.toArray) :=
  .agg l vals h.1 (fun j u x a b => (h.2 j u x a b).1)

def resOne (tmps : Array Value) : ResultVar → Sem Value
  | .tmp t => pure (tmps.getD t undef)
  | .cell a t => do loadVar t (← asAddr (tmps.getD a undef))
theorem results_eq (fn : Func) (tmps : Array Value) : results fn tmps = (do let vs ← fn.results.mapM (resOne tmps); pure (if h : vs.size = 1 then vs[0] else .tuple vs)) := by
  unfold results
  congr 1
theorem res1_run {ρ : Rho} {w : World} {a : Act} {r : ResultVar} {u : AV} (h : HRel ρ H w) (hT : ∀ t, Rep (okOf ρ H) ρ w (T t) (a.tmps.getD t undef)) (hr : Res1 P T H r u) :
    ∃ x, (resOne a.tmps r).run P w = .ok x w ∧ Rep (okOf ρ H) ρ w u x := by
  cases hr with
  | tmp t => exact ⟨_, rfl, hT t⟩
  | cell ad t id e l h1 h2 hd hs =>
    have := hT ad
    rw [h1] at this
    obtain ⟨g, vals, hx, _, hg, hc⟩ := rep_ptr_box h h2 this
    obtain ⟨fs, hd⟩ := hd
    refine ⟨.agg vals.toArray, ?_, rep_agg_cells hc⟩
    simp only [resOne, hx, asAddr]
    have h5 := run_loadVar_row (P := P) w g e t vals.toArray (0, 0) _ hg hd rfl (by rw [hs, hc.1]; simp)
    simpa using h5
  | cell1 ad t id e u h1 h2 hd =>
    have := hT ad
    rw [h1] at this
    obtain ⟨g, vals, hx, _, hg, hc⟩ := rep_ptr_box h h2 this
    obtain ⟨d, hd, hd2⟩ := hd
    obtain ⟨v, rfl⟩ : ∃ v, vals = [v] := List.length_eq_one_iff.1 (by rw [← hc.1]; rfl)
    refine ⟨v, ?_, (hc.2 0 u v rfl rfl).1⟩
    simp only [resOne, hx, asAddr]
    have hcell : w.cell? ⟨g, 0, none⟩ = some v := by simp [World.cell?, hg]
    have hu := run_underlying (w := w) hd
    cases d <;> simp_all [loadVar, isAgg, go_sem]

theorem ACall.of_body {f : FuncId} {us : List AV} {K : AV → Hp → Prop} {fn : Func} {c : Code} (hf : P.funcs[f]? = some fn) (hname : (fn.name == "runtime.NumGoroutine") = false) (hb : fn.body = some c)
    (hn : us.length + (fn.ntmps - us.length) = n) (h : AW P n c (fun e T' H' => (match e with | .normal | .ret => True | _ => False) ∧ ∃ u H2, Res P T' H' fn u ∧ Sub H2 H' ∧ K u H2) (fun t => us.getD t .any) H) : ACall P f us H K := by
  subst hn
  refine ⟨⟨fn, hf, hname, by rw [hb]; rfl⟩, ?_⟩
  intro ρ w vals hr ha
  refine calls_of_wp hf hb ?_
  have hi : Inv ⟨ρ, H, w⟩ (us.length + (fn.ntmps - us.length)) (fun t => us.getD t .any) H { tmps := vals.toArray ++ Array.replicate (fn.ntmps - vals.toArray.size) undef, defers := [] } w := by
    refine ⟨by simp [ha.1], rfl, ρ, hr, Ext.refl _ _ _, fun t => ?_⟩
    by_cases ht : t < us.length
    · have h1 : us[t]? = some us[t] := List.getElem?_eq_getElem ht
      have ht' : t < vals.length := by rw [← ha.1]; exact ht
      have h2 : vals[t]? = some vals[t] := List.getElem?_eq_getElem ht'
      have h3 := ha.2 t _ _ h1 h2
      have e1 : us.getD t .any = us[t] := by simp [List.getD_eq_getElem?_getD, h1]
      have e2 : (vals.toArray ++ Array.replicate (fn.ntmps - vals.toArray.size) undef).getD t undef = vals[t] := by
        rw [Array.getD_eq_getD_getElem?, Array.getElem?_append_left (by simpa using ht')]
        simp [ht']
      show Rep _ _ _ (us.getD t .any) _
      rw [e1, e2]; exact h3
    · have e1 : us.getD t .any = .any := by simp [List.getD_eq_getElem?_getD, List.getElem?_eq_none (Nat.le_of_not_lt ht)]
      show Rep _ _ _ (us.getD t .any) _
      rw [e1]; exact .any _
  refine wp_mono (h _ _ _ hi) ?_
  intro e a' w' hh
  have fin : ∀ T' H', Inv ⟨ρ, H, w⟩ (us.length + (fn.ntmps - us.length)) T' H' a' w' → (∃ u H2, Res P T' H' fn u ∧ Sub H2 H' ∧ K u H2) →
      a'.defers = [] ∧ ∃ v, (results fn a'.tmps).run P w' = .ok v w' ∧ ∃ x ρ' u H', Ending.returned v = .returned x ∧ HRel ρ' H' w' ∧ Ext ρ H w ρ' H' w' ∧ Rep (okOf ρ' H') ρ' w' u x ∧ K u H' := by
    intro T' H' hi' ⟨u, H2, hres, hs, hK⟩
    refine ⟨hi'.defers, ?_⟩
    obtain ⟨ρ', h1, h2, h3⟩ := hi'.rel
    have hE := Ext.drop (ρ := ρ') hs w'
    rcases hres with ⟨r, hr1, hr2⟩ | ⟨rs, us', hr1, hlen, rfl, hl, hr2⟩
    · obtain ⟨x, hx, hrep⟩ := res1_run (a := a') h1 h3 hr2
      refine ⟨x, ?_, x, ρ', u, H2, rfl, h1.drop hs, h2.trans hE, hE.rep hrep, hK⟩
      rw [results_eq, hr1]
      simp [go_sem, hx]
    · have hall : ∀ (rs : List ResultVar) (us' : List AV), rs.length = us'.length → (∀ (j : Nat) r v, rs[j]? = some r → us'[j]? = some v → Res1 P T' H' r v) →
          ∃ xs : List Value, (rs.mapM (resOne a'.tmps)).run P w' = Result.ok xs w' ∧ us'.length = xs.length ∧ ∀ (j : Nat) v x, us'[j]? = some v → xs[j]? = some x → Rep (okOf ρ' H') ρ' w' v x := by
        intro rs
        induction rs with
        | nil => intro us' hl _; cases us' with | nil => exact ⟨[], rfl, rfl, fun j v x h => by simp at h⟩ | cons _ _ => simp at hl
        | cons r rs ih =>
          intro us' hl hr
          cases us' with
          | nil => simp at hl
          | cons u0 us' =>
            obtain ⟨x, hx, hrep⟩ := res1_run (a := a') h1 h3 (hr 0 r u0 rfl rfl)
            obtain ⟨xs, hxs, hl2, hreps⟩ := ih us' (by simpa using hl) (fun j r v hj hv => hr (j + 1) r v (by simpa using hj) (by simpa using hv))
            refine ⟨x :: xs, ?_, by simp [hl2], fun j v y hv hy => ?_⟩
            · rw [List.mapM_cons]
              simp [go_sem, hx, hxs]
            · cases j with
              | zero => simp at hv hy; subst hv hy; exact hrep
              | succ j => exact hreps j v y (by simpa using hv) (by simpa using hy)
      obtain ⟨xs, hxs, hl2, hreps⟩ := hall rs us' hl hr2
      refine ⟨.tuple xs.toArray, ?_, _, ρ', .tup us', H2, rfl, h1.drop hs, h2.trans hE, hE.rep (.tup us' xs hl2 hreps), hK⟩
      rw [results_eq, hr1, List.mapM_toArray]
      have : xs.length ≠ 1 := by rw [← hl2, ← hl]; exact hlen
      simp [go_sem, hxs, this]
  cases e with
  | normal => obtain ⟨T', H', hi', _, hq⟩ := hh; exact fin T' H' hi' hq
  | ret => obtain ⟨T', H', hi', _, hq⟩ := hh; exact fin T' H' hi' hq
  | exit id => obtain ⟨T', H', hi', hf, _⟩ := hh; exact hf.elim
  | goto l => obtain ⟨T', H', hi', hf, _⟩ := hh; exact hf.elim
  | panic ch => exact hh.elim
  | outgrown => exact hh.elim
end
end Go.Eng
