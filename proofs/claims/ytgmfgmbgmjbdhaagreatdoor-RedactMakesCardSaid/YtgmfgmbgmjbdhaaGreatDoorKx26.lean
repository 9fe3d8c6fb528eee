/- A range over a function: the engine's rule. · Arrays in boxes, arrays as values. · Rows of zeros, what is nil, bits turned over. -/
import Derived.Test.YtgmfgmbgmjbdhaaGreatDoorKx19
import Derived.Laws.MakeOwn
section
namespace Go.Eng
open Go Go.RowKit
set_option linter.unusedVariables false
set_option linter.unusedSimpArgs false
theorem wpIn_depth {r : Option Nat} {m m' : Nat} {P : Program} {c : Code} {Q : Exit → Act → World → Prop} {a : Act} {w : World} (h : c.wpIn (fen r) m P Q a w) : c.wpIn (fen r) m' P Q a w :=
  fun b k cs h1 h2 _ => h b k cs h1 h2 (room_wide _)
def notIter : Ob → Bool
  | .iter _ _ => false
  | .mp _ => false
  | _ => true
/-- A function that hands out values: its contract at a world. -/
structure Iter (P : Program) {α : Type} (gf : Nat) (lb : Array Value) (S Sp : List α → Prop) (N : Nat) (ρ : Rho) (H : Hp) (w : World) (encA : α → AV) (encs : α → Value) (Kp : World → World → Prop) : Prop where
  stops : SeqStopsK (fen none) 2 P gf lb (fun x => #[encs x]) Kp S Sp N w
  trans : ∀ {A B C : World}, Kp A B → Kp B C → Kp A C
  put : ∀ (W : World) (l : Nat) (o o' : Obj), w.heap.size ≤ l → W.heap[l]? = some o → o.isCells = false → o.isWalk = false → Kp W (W.putObj l o')
  rep : ∀ x, Rep (okOf ρ H) ρ w (encA x) (encs x)
  keep : ∀ ρ1 H1 W1 ρ2 H2 W2, Ext ρ H w ρ1 H1 W1 → Ext ρ1 H1 W1 ρ2 H2 W2 → Kp W1 W2
theorem own_cells {ρ : Rho} {H : Hp} {W : World} (h : HRel ρ H W) (hni : ∀ id ob, H id = some ob → notIter ob = true) {k : Nat} {o : Obj} (hk : W.heap[k]? = some o) (ho : o.isCells = false) : ¬ Own ρ H k := by
  rintro ⟨id, ob, v, h1, h2, h3⟩
  obtain ⟨v', hv', hob⟩ := h.ob id ob h1
  rw [h2] at hv'
  cases hv'
  cases ob with
  | box t cells => obtain ⟨g, vals, rfl, hg, hr⟩ := hob; cases h3; rw [hg] at hk; cases hk; cases ho
  | row e sz rows =>
    obtain ⟨h0, inner, hor, hl, hr⟩ := hob
    rcases hor.2 with ⟨rfl, _⟩ | ⟨g, cap, cur, rfl, _, hg, _⟩
    · cases h3
    · cases h3; rw [hg] at hk; cases hk; cases ho
  | iter s pos => have := hni id _ h1; cases this
  | mp es => have := hni id _ h1; cases this
  | rowc e sz rows c => obtain ⟨h0, g, n, inner, cur, rfl, hg, _⟩ := hob; cases h3; rw [hg] at hk; cases hk; cases ho
  | raw g x => obtain ⟨rfl, _⟩ := hob; cases h3
/-- Objects through the turn of a block that holds no cells. -/
theorem keeps_of_grown {ρ : Rho} {H : Hp} {W W' : World} {row : Option Nat} (h : HRel ρ H W) (hni : ∀ id ob, H id = some ob → notIter ob = true) (hg : W.grownBy W' row) (hr : ∀ r, row = some r → ∃ o : Obj, W.heap[r]? = some o ∧ o.isCells = false) : Keeps ρ H W W' where
  os := hg.os
  tape := hg.tape
  output := hg.output
  size := hg.size
  cells k o h1 h2 := by
    rw [hg.block k (Array.getElem?_eq_some_iff.1 h1).1 (fun e => by obtain ⟨o', h3, h4⟩ := hr k e.symm; rw [h1] at h3; cases h3; rw [h2] at h4; cases h4)]; exact h1
  iter id s pos g h1 _ := by have := hni id _ h1; cases this
  mp id es g h1 _ := by have := hni id _ h1; cases this
section
variable {P : Program} {n : Nat} {Q : AEx → Sl → Hp → Prop} {H0 : Hp} {l : List (Nat × AV)} {objs : List (Nat × Ob)}
/-- How a round may end. -/
def RoundQ {β : Type} (H0 : Hp) (O Ox : β → List (Nat × Ob)) (J Jx : β → Prop) (ix : Nat) : AEx → Sl → Hp → Prop
  | .normal, _, H' => ∃ b, J b ∧ Dist H0 (O b) ∧ Sub (extH H0 (O b)) H'
  | .exit id, _, H' => id = ix ∧ ∃ b, Jx b ∧ Dist H0 (Ox b) ∧ Sub (extH H0 (Ox b)) H'
  | _, _, _ => False
theorem UW.rangeFunc {α β : Type} {g : Operand} {p d rid : Nat} {ty : TypeId} {ps : String} {af : Array Edge} {body : Code} {gf : Nat} {caps : List AV} (S Sp : List α → Prop) (N : Nat) (encA : α → AV) (ix : Nat)
    (hg : evO l g = some (.clo gf caps)) (hb : Bodied P gf) (hp : p < n) (hd : d < n)
    (hit : ∀ ρ w (lb : List Value), HRel ρ (extH H0 objs) w → Reps (okOf ρ (extH H0 objs)) ρ w caps lb → ∃ encs Kp, Iter P gf lb.toArray S Sp N ρ (extH H0 objs) w encA encs Kp)
    (O Ox : β → List (Nat × Ob)) (J Jx : List α → β → Prop) (b0 : β) (h0 : J [] b0) (ho : (O b0) = objs)
    (hni0 : ∀ id ob, H0 id = some ob → notIter ob = true) (hni : ∀ b, ((O b).all fun p => notIter p.2) = true) (hnix : ∀ b, ((Ox b).all fun p => notIter p.2) = true)
    (hround : ∀ (lp : Nat) (pre : List α) (x : α) (b : β), J pre b → pre.length < N → @UW ⟨some lp⟩ P n (RoundQ H0 O Ox (J (pre ++ [x])) (Jx (pre ++ [x])) ix) H0 body ((d, encA x) :: (p, encA x) :: l) (O b))
    (hdone : ∀ xs b, S xs → J xs b → UQ Q H0 .normal l (O b)) (hstop : ∀ pre b, Sp pre → Jx pre b → UQ Q H0 (.exit ix) l (Ox b)) :
    @UW rd0 P n Q H0 (.rangeFunc g #[p] (.region rid #[⟨some d, .assign (.tmp p), ty, ps, af, none⟩] false) body) l objs := by
  subst ho
  intro hdist E a w hi
  obtain ⟨ρ, h1, h2, h3⟩ := hi.rel
  have hrg := ev_rep h3 g
  rw [ev_of hg] at hrg
  obtain ⟨lb, hga, hlb⟩ : ∃ lb : List Value, a.eval g = .func (.func gf) #[] lb.toArray ∧ Reps (okOf ρ (extH H0 (O b0))) ρ w caps lb := by
    generalize a.eval g = y at hrg
    cases hrg with
    | clo _ _ vs hl hr => exact ⟨vs, rfl, hl, hr⟩
  obtain ⟨encs, Kp, it⟩ := hit ρ w lb h1 hlb
  obtain ⟨fn, hfn, hnm, hbd⟩ := hb
  have nit : ∀ (os : List (Nat × Ob)), (os.all fun p => notIter p.2) = true → ∀ id ob, extH H0 os id = some ob → notIter ob = true := fun os hos id ob h => by
    rcases extH_memG h with h | h
    · exact List.all_eq_true.1 hos _ h
    · exact hni0 id ob h
  -- between two rounds
  let I : List α → World → Prop := fun pre W => ∃ b ρk, J pre b ∧ Dist H0 (O b) ∧ HRel ρk (extH H0 (O b)) W ∧ Ext ρ (extH H0 (O b0)) w ρk (extH H0 (O b)) W ∧ Marks E a.defers W
  let Ix : Code → List α → World → Prop := fun c pre W => c = .exit ix ∧ ∃ b ρk, Jx pre b ∧ Dist H0 (Ox b) ∧ HRel ρk (extH H0 (Ox b)) W ∧ Ext ρ (extH H0 (O b0)) w ρk (extH H0 (Ox b)) W ∧ Marks E a.defers W
  have turn : ∀ {os : List (Nat × Ob)} {ρk : Rho} {W W' : World} {row : Option Nat}, (os.all fun p => notIter p.2) = true → HRel ρk (extH H0 os) W → Ext ρ (extH H0 (O b0)) w ρk (extH H0 os) W → Marks E a.defers W → W.grownBy W' row → (∀ r, row = some r → w.heap.size ≤ r ∧ ∃ o : Obj, W.heap[r]? = some o ∧ o.isCells = false) →
      HRel ρk (extH H0 os) W' ∧ Ext ρ (extH H0 (O b0)) w ρk (extH H0 os) W' ∧ Marks E a.defers W' := by
    intro os ρk W W' row hos hr he hm hgr hrow
    have k := keeps_of_grown hr (nit os hos) hgr (fun r e => (hrow r e).2)
    refine ⟨hr.off k, ⟨k.os.trans he.os, k.tape.trans he.tape, k.output.trans he.output, Nat.le_trans he.size k.size, fun j hj hn => ?_, he.own, he.rho⟩, ?_⟩
    · rw [hgr.block j (Nat.lt_of_lt_of_le hj he.size) (fun e => by have := (hrow j e.symm).1; omega)]
      exact he.block j hj hn
    · obtain ⟨Ds, m1, m2, m3⟩ := hi.defers
      obtain ⟨Ds', q1, q2, q3⟩ := hm
      have hDs : Ds = Ds' := by
        rw [m1] at q1
        exact List.map_inj_right (fun x y e => by cases e; rfl) |>.1 q1
      subst hDs
      refine ⟨Ds, m1, m2, fun D hD => ⟨(m3 D hD).1, ?_⟩⟩
      have hlt := (Array.getElem?_eq_some_iff.1 (m3 D hD).2).1
      rw [hgr.block D (Nat.lt_of_lt_of_le hlt he.size) (fun e => by have := (hrow D e.symm).1; omega)]
      exact (q3 D hD).2
  have more : ∀ {D : Nat} {W : World}, w.heap.size ≤ D → W.heap[D]? = some (.deferred (some [])) → Marks E a.defers W → Marks E (markOf D :: a.defers) W := by
    rintro D W hle hD ⟨Ds', c1, c2, c3⟩
    obtain ⟨Ds, m1, m2, m3⟩ := hi.defers
    have hDs : Ds = Ds' := by
      rw [m1] at c1
      exact List.map_inj_right (fun x y e => by cases e; rfl) |>.1 c1
    subst hDs
    refine ⟨D :: Ds, by rw [List.map_cons, ← m1], List.nodup_cons.2 ⟨fun hm => ?_, m2⟩, fun D' hD' => ?_⟩
    · have := (Array.getElem?_eq_some_iff.1 (m3 D hm).2).1; omega
    · rcases List.mem_cons.1 hD' with rfl | hD'
      · exact ⟨Nat.le_trans h2.size hle, hD⟩
      · exact c3 D' hD'
  refine wpIn_rangeFunc_ownF (F := fen none) (w0 := w) rfl (by decide) hga trivial (fun args w => ?_) it.stops it.trans it.put (Below.refl _ _) (fun _ => rfl) I Ix ?_ ?_ ⟨b0, ρ, h0, hdist, h1, Ext.refl _ _ _, hi.defers⟩
    (fun x => { tmps := (a.tmps.setIfInBounds p (encs x)).setIfInBounds d (encs x), defers := [] }) ?_ ?_ ?_ ?_
  · obtain ⟨c, hc⟩ : ∃ c, fn.body = some c := by
      cases hbb : fn.body with
      | none => rw [hbb] at hbd; cases hbd
      | some c => exact ⟨c, rfl⟩
    have hnm' : fn.name ≠ "runtime.NumGoroutine" := by simpa using hnm
    simp [callFunc, hfn, hnm', hc]
  · rintro pre W W' row ⟨b, ρk, q1, q2, q3, q4, q5⟩ hgr hrow
    obtain ⟨t1, t2, t3⟩ := turn (hni b) q3 q4 q5 hgr hrow
    exact ⟨b, ρk, q1, q2, t1, t2, t3⟩
  · rintro c pre W W' row ⟨rfl, b, ρk, q1, q2, q3, q4, q5⟩ hgr hrow
    obtain ⟨t1, t2, t3⟩ := turn (hnix b) q3 q4 q5 hgr hrow
    exact ⟨rfl, b, ρk, q1, q2, t1, t2, t3⟩
  · intro lp x W K hK
    refine wpIn_region_lit (l := [_]) ?_
    unfold wpListIn
    rw [if_pos (by simp [Region.wanted])]
    refine ⟨fun _ _ => trivial, ?_⟩
    rw [Oper.semAt_eq _ _ _ (fun c hc => by cases hc)]
    unfold execOp
    have e1 : ({ tmps := a.tmps.setIfInBounds p (encs x), defers := [] } : Act).eval (.tmp p) = encs x := by
      show (a.tmps.setIfInBounds p (encs x)).getD p undef = encs x
      simp [Array.getD, hi.size, hp]
    show K _ W
    have e2 : (([p].toArray.zip #[encs x]).foldl (fun t (p, v) => t.setIfInBounds p v) a.tmps) = a.tmps.setIfInBounds p (encs x) := by simp
    rw [e2, e1]
    exact hK
  · rintro lp pre x W ⟨b, ρk, q1, q2, q3, q4, q5⟩ hlen
    have hx := q4.rep (it.rep x)
    have hT := fun t => q4.rep (h3 t)
    have hT1 := rep_put (a := { tmps := a.tmps, defers := [] }) hi.size hT (some p) hx
    simp only [putD, hp, if_true, upd_ofL] at hT1
    have hT2 := rep_put (a := ({ tmps := a.tmps, defers := [] } : Act).put (some p) (encs x)) (by show (a.tmps.setIfInBounds p (encs x)).size = n; simp [hi.size]) hT1 (some d) hx
    simp only [putD, hd, if_true, upd_ofL] at hT2
    have hh := hround lp pre x b q1 hlen q2 ⟨ρk, extH H0 (O b), W⟩ { tmps := (a.tmps.setIfInBounds p (encs x)).setIfInBounds d (encs x), defers := [] } W
      ⟨by simp [hi.size], .none, ρk, q3, Ext.refl _ _ _, hT2⟩
    show Code.wpIn (fen (some lp)) 1 P _ _ _ _
    refine wpIn_mono (wpIn_depth hh) ?_
    have ko : ∀ {ρ' : Rho} {H' : Hp} {W' : World}, Ext ρk (extH H0 (O b)) W ρ' H' W' → KeepsOthers W W' := fun r2 =>
      ⟨r2.size, fun k o hk ho => (r2.block k (Array.getElem?_eq_some_iff.1 hk).1 (own_cells q3 (nit _ (hni b)) hk ho)).trans hk⟩
    intro e a' W' hq
    cases e with
    | normal =>
      obtain ⟨T', H', hi', b', hJ', hd', hs⟩ := hq
      obtain ⟨ρ', r1, r2, r3⟩ := hi'.rel
      exact ⟨ko r2, it.keep _ _ _ _ _ _ q4 r2, b', ρ', hJ', hd', r1.drop hs, (q4.trans r2).trans (Ext.drop hs W'), q5.step q3 r2⟩
    | exit id =>
      obtain ⟨T', H', hi', rfl, b', hJ', hd', hs⟩ := hq
      obtain ⟨ρ', r1, r2, r3⟩ := hi'.rel
      exact ⟨ko r2, rfl, b', ρ', hJ', hd', r1.drop hs, (q4.trans r2).trans (Ext.drop hs W'), q5.step q3 r2⟩
    | goto t => obtain ⟨T', H', hi', hf⟩ := hq; exact hf.elim
    | ret => obtain ⟨T', H', hi', hf⟩ := hq; exact hf.elim
    | panic ch => exact hq.elim
    | outgrown => exact hq.elim
  · rintro D xs W hle hS ⟨b, ρk, q1, q2, q3, q4, q5⟩ hD
    exact ⟨ofL l, extH H0 (O b), ⟨hi.size, more hle hD q5, ρk, q3, h2.trans q4, fun t => q4.rep (h3 t)⟩, hdone xs b hS q1 q2⟩
  · rintro D c pre W hle hS ⟨rfl, b, ρk, q1, q2, q3, q4, q5⟩ hD
    exact wpIn_exit ⟨ofL l, extH H0 (Ox b), ⟨hi.size, more hle hD q5, ρk, q3, h2.trans q4, fun t => q4.rep (h3 t)⟩, hstop pre b hS q1 q2⟩
end
theorem Turns.clo {H H' : Hp} {f : Nat} {l l' : List AV} (hl : l'.length = l.length) (h : ∀ (j : Nat) u u', l[j]? = some u → l'[j]? = some u' → Turns H u H' u') : Turns H (.clo f l) H' (.clo f l') := by
  intro ρ w x hh hr
  cases hr with
  | clo _ _ vs hl2 hr2 => exact .clo f l' vs (by omega) (fun j u' y h1 h2 => by
      have hj : j < l.length := by rw [← hl]; exact (List.getElem?_eq_some_iff.1 h1).1
      exact h j _ u' (List.getElem?_eq_getElem hj) h1 ρ w y hh (hr2 j _ y (List.getElem?_eq_getElem hj) h2))
theorem Turns.rpb {H H' : Hp} {id e : Nat} {cells : List AV} (hs : Sub H' H) (h : H id = some (.box e cells)) (h' : H' id = none) : Turns H (.ptr id 0) H' (.rp cells) := by
  intro ρ w x hh hx
  obtain ⟨g, vals, rfl, hv, hg, hc⟩ := rep_ptr_box hh h hx
  have hok : okOf ρ H' g := by
    rintro ⟨id2, ob2, v2, a1, a2, a3⟩
    have := hh.apart id2 id ob2 _ v2 _ g (hs _ _ a1) h a2 hv a3 rfl
    subst this
    rw [h'] at a1
    cases a1
  have hE := Ext.drop (ρ := ρ) hs w
  refine .rp cells _ (fun j => vals.getD j default) (fun _ => ⟨hok, (Array.getElem?_eq_some_iff.1 hg).1⟩) (fun j hj => ?_) (fun j u hj => ?_)
  · have hj2 : j < vals.length := by rw [← hc.1]; exact hj
    have e1 : vals.getD j default = vals[j] := by simp [List.getD, hj2]
    rw [add_plain, e1]
    refine ⟨?_, (hc.2 j _ _ (List.getElem?_eq_getElem hj) (List.getElem?_eq_getElem hj2)).2⟩
    simp [World.cell?, hg, hj2]
  · have hj1 := (List.getElem?_eq_some_iff.1 hj).1
    have hj2 : j < vals.length := by rw [← hc.1]; exact hj1
    have e1 : vals.getD j default = vals[j] := by simp [List.getD, hj2]
    rw [e1]
    exact hE.rep (hc.2 j u _ hj (List.getElem?_eq_getElem hj2)).1
end Go.Eng
end
section
namespace Go.Eng
open Go Go.RowKit
set_option linter.unusedVariables false
set_option linter.unusedSimpArgs false
set_option linter.unusedSectionVars false
variable [Rd]
/-- An array's length, its elements' type and size. -/
def arT (P : Program) (t : TypeId) : Option (Nat × Nat × Nat) :=
  match P.underlying t with
  | some (.array n e) => (P.info? e).map fun i => (n, e, i.size)
  | _ => none
theorem arT_some {P : Program} {t n e s : Nat} (h : arT P t = some (n, e, s)) : P.underlying t = some (.array n e) ∧ ∃ i, P.info? e = some i ∧ i.size = s := by
  unfold arT at h
  split at h
  · rename_i n' e' hu
    obtain ⟨i, hi, hx⟩ := Option.map_eq_some_iff.1 h
    cases hx
    exact ⟨hu, i, hi, rfl⟩
  · cases h
section
variable {P : Program} {n : Nat} {ops : Array Oper} {T : Sl} {H H0 : Hp} {o : Oper} {K : AV → Hp → Prop} {l : List (Nat × AV)} {objs : List (Nat × Ob)} {x y : Operand} {dst : Option Nat} {ty t : TypeId} {ps : String} {af : Array Edge} {u : AV} {ki : IntKind} {i : Int}
theorem Does.indexAddr_ar {len e s id off : Nat} (hg : o.guard = none) (ho : o.op = .indexAddr t x y) (ht : arT P t = some (len, e, s)) (hx : ev T x = .ptr id off) (hy : ev T y = .v (.int ki i)) (h0 : 0 ≤ i) (h1 : i < len) (hk : K (.ptr id (off + i.toNat * s)) H) : Does P n ops o T H K := by
  refine Does.val _ hg (fun a w ρ hh hr => ?_) hk
  have h3 := hr x
  have h4 := hr y
  rw [hx] at h3
  rw [hy] at h4
  obtain ⟨hu, inf, hi, hs⟩ := arT_some ht
  generalize hxx : a.eval x = xx at h3
  cases h3 with
  | ptr _ _ g x' hv hx' =>
    have hsz : (sizeOf e).run P w = .ok s w := by simp [sizeOf, typeInfo, hi, hs, go_sem]
    refine ⟨.pointer (some ⟨g, off + i.toNat * s, none⟩), ?_, .ptr id _ g x' hv hx'⟩
    unfold execOp
    rw [ho]
    simp only [hxx, rep_v h4]
    have he : P.elem t = e := by simp [Program.elem, hu]
    have hl : P.arrayLen t = len := by simp [Program.arrayLen, hu]
    have this := run_indexAt_array (P := P) (w := w) t ⟨g, off, none⟩ ki i (by rw [hl, he]; exact hu)
    rw [hl, he, if_pos ⟨h0, h1⟩, hsz] at this
    simp only [Sem.run_bind, this, Result.andThen_ok, Sem.run_pure, add_plain]
theorem Does.index_ar {len e : Nat} {ls : List AV} (hg : o.guard = none) (ho : o.op = .index t x y) (ht : arT P t = some (len, e, 1)) (he : tyOf P e = some (false, 1)) (hx : ev T x = .agg ls) (hy : ev T y = .v (.int ki i)) (h0 : 0 ≤ i) (h1 : i < len) (hu : ls[i.toNat]? = some u) (hk : K u H) : Does P n ops o T H K := by
  refine Does.val _ hg (fun a w ρ hh hr => ?_) hk
  have h3 := hr x
  have h4 := hr y
  rw [hx] at h3
  rw [hy] at h4
  obtain ⟨hun, inf, hi, hs⟩ := arT_some ht
  generalize hxx : a.eval x = xx at h3
  cases h3 with
  | agg _ vs hl hr2 =>
    have hlt := (List.getElem?_eq_some_iff.1 hu).1
    have hv : vs[i.toNat]? = some (vs[i.toNat]'(by omega)) := List.getElem?_eq_getElem (by omega)
    have hsz : (sizeOf e).run P w = .ok 1 w := by simp [sizeOf, typeInfo, hi, hs, go_sem]
    refine ⟨vs[i.toNat]'(by omega), ?_, hr2 _ _ _ hu hv⟩
    unfold execOp
    rw [ho]
    simp only [hxx, rep_v h4]
    have hd : (0 ≤ i ∧ i < (len : Int)) := ⟨h0, h1⟩
    obtain ⟨d, ie, hd1, _, hb, _⟩ := tyOf_some he
    have hu1 := run_underlying (w := w) hd1
    have hag : (isAgg e).run P w = .ok false w := by cases d <;> simp_all [isAgg, isAggD, go_sem]
    simp [Instr.index, asIntOf, run_underlying hun, hd, hsz, part, hag, hv, go_sem]
/-- A part of a boxed array, by its address. -/
theorem Does.slice_ar {len e id off lo' hi' : Nat} {lo hi : Option Operand} (hg : o.guard = none) (ho : o.op = .slice t x lo hi none) (ht : arT P t = some (len, e, 1)) (hx : ev T x = .ptr id off) (hbx : ∃ e' cells, H id = some (.box e' cells)) (hb : Bnds T len lo hi lo' hi') (h1 : lo' ≤ hi') (h2 : hi' ≤ len) (h3 : lo' < len) (h4 : len ≤ maxLen) (hk : K (.bsl id (off + lo') (hi' - lo')) H) : Does P n ops o T H K := by
  refine Does.val _ hg (fun a w ρ hh hr => ?_) hk
  have h5 := hr x
  rw [hx] at h5
  obtain ⟨hun, inf, hin, hs⟩ := arT_some ht
  obtain ⟨e', cells, hbx⟩ := hbx
  obtain ⟨g, vals, hxx, hv, _, _⟩ := rep_ptr_box hh hbx h5
  have hsz : (sizeOf e).run P w = .ok 1 w := by simp [sizeOf, typeInfo, hin, hs, go_sem]
  have hml : ¬ len = lo' := by omega
  refine ⟨.slice (some ⟨g, off + lo', none⟩) (hi' - lo') (len - lo'), ?_, .bsl id _ _ g _ hv (by omega) (by omega)⟩
  unfold execOp
  rw [ho]
  simp only [hxx]
  have key : ∀ (low high : Option Value), (Instr.sliceBounds false len len low high none).run P w = .ok (lo', hi', len) w → (Instr.sliceAt t (.pointer (some ⟨g, off, none⟩)) low high none).run P w = .ok (.slice (some ⟨g, off + lo', none⟩) (hi' - lo') (len - lo')) w := by
    intro low high hbd
    simp only [Instr.sliceAt, Sem.run_bind, run_underlying hun, Result.andThen_ok, Instr.sureAddr, Sem.run_pure, hbd, hsz, hml, if_false, add_plain, Nat.mul_one]
  have hbd : (Instr.sliceBounds false len len (lo.map a.eval) (hi.map a.eval) none).run P w = .ok (lo', hi', len) w := by
    cases hb with
    | all => simp [Instr.sliceBounds, go_sem]
    | lo x k _ hx => have := hr x; rw [hx] at this; simp only [Option.map_some, Option.map_none, rep_v this]; simp [Instr.sliceBounds, Instr.sliceBound, asIntOf, go_sem, h1, h2]
    | hi x k _ hx => have := hr x; rw [hx] at this; simp only [Option.map_some, Option.map_none, rep_v this]; simp [Instr.sliceBounds, Instr.sliceBound, asIntOf, go_sem, h1, h2]
    | both x y k k' _ _ hx hy => have q1 := hr x; rw [hx] at q1; have q2 := hr y; rw [hy] at q2; simp only [Option.map_some, Option.map_none, rep_v q1, rep_v q2]; simp [Instr.sliceBounds, Instr.sliceBound, asIntOf, go_sem, h1, h2]
  simp only [Sem.run_bind, Option.map_none, key _ _ hbd, Result.andThen_ok, Sem.run_pure]
/-- Within one box: a part of its cells over another one. -/
theorem Does.copy_bsl {t' e b id o1 l1 o2 l2 m e' : Nat} {cells : List AV} (hg : o.guard = none) (ho : o.op = .call { callee := .builtin .copy, args := #[x, y], argTypes := #[t, t'] }) (ht : slT P t = some (e, 1, b)) (hx : ev T x = .bsl id o1 l1) (hy : ev T y = .bsl id o2 l2) (h2 : H id = some (.box e' cells)) (hm : Nat.min l2 l1 = m) (hb1 : o1 + m ≤ cells.length) (hb2 : o2 + m ≤ cells.length)
    (hk : K (.v (.int .i64 (m : Int))) (set H id (some (.box e' (setL cells o1 ((cells.drop o2).take m)))))) : Does P n ops o T H K := by
  intro a w ρ h1 hd h3 h4 N Q hN
  rw [if_pos (by simp [Region.wanted, hg])]
  have hr := ev_rep h4
  have hX := hr x
  have hY := hr y
  rw [hx] at hX
  rw [hy] at hY
  obtain ⟨v, hv, g, vals, rfl, hgc, hc⟩ := h3.ob id _ h2
  generalize hxx : a.eval x = xx at hX
  generalize hyy : a.eval y = yy at hY
  cases hX with
  | bsl _ _ _ g1 cap1 q1 q2 q3 =>
    cases hY with
    | bsl _ _ _ g2 cap2 r1 r2 r3 =>
      rw [hv] at q1 r1
      cases q1; cases r1
      have hl := hc.1
      have hsub := repcells_sub hc o2 m
      have hone : ∀ v ∈ (vals.drop o2).take m, v.oneCell' = true := fun v hv => by
        obtain ⟨j, hj⟩ := List.getElem?_of_mem hv
        have hlt : j < ((cells.drop o2).take m).length := by rw [hsub.1]; exact (List.getElem?_eq_some_iff.1 hj).1
        exact (hsub.2 j _ v (List.getElem?_eq_getElem hlt) hj).2
      obtain ⟨w', hrun, hw⟩ := run_copy_own (P := P) (e0 := e') (t' := t') (ty := o.type) (g := g) (p := o1) (dl := l1) (dc := cap1) (x := .slice (some ⟨g, o2, none⟩) l2 cap2) (cur := vals.toArray) (nv := (vals.drop o2).take m) ht hgc hm (by simp; omega) hone
        (.inr ⟨_, _, rfl, fun j y hj => by
          rw [List.getElem?_take] at hj
          split at hj
          · rw [List.getElem?_drop] at hj
            rw [add_plain]
            simp [World.cell?, hgc, hj]
          · cases hj⟩) (by simp; omega)
      unfold Oper.wp
      rw [run_op_copy ho (by rw [hxx, hyy]; exact hrun)]
      have := h3.write (.box e' (setL cells o1 ((cells.drop o2).take m))) h2 hv hw.os hw.tape hw.output (by rw [hw.size]; exact Nat.le_refl _) (fun k _ hk => hw.block k (fun e => hk (by rw [e]; rfl)))
        (fun ρ' H' ex _ => ⟨g, setL vals o1 ((vals.drop o2).take m), rfl, hw.at_, repcells_setL (ex.cells hc) (ex.cells hsub) _⟩)
      exact hN _ w' ρ _ _ this.1 this.2 (.v _) hk
theorem Z.iar {len e s id off : Nat} (ht : arT P t = some (len, e, s)) (hx : evO l x = some (.ptr id off)) (hy : evO l y = some (.v (.int ki i))) (h0 : 0 ≤ i) (h1 : i < len) : QS P n ops H0 ⟨dst, .indexAddr t x y, ty, ps, af, none⟩ l objs (.ptr id (off + i.toNat * s)) := fun _ => Does.indexAddr_ar rfl rfl ht (ev_of hx) (ev_of hy) h0 h1 ⟨rfl, rfl⟩
theorem Z.xar {len e : Nat} {ls : List AV} (ht : arT P t = some (len, e, 1)) (he : tyOf P e = some (false, 1)) (hx : evO l x = some (.agg ls)) (hy : evO l y = some (.v (.int ki i))) (h0 : 0 ≤ i) (h1 : i < len) (hu : ls[i.toNat]? = some u) : QS P n ops H0 ⟨dst, .index t x y, ty, ps, af, none⟩ l objs u := fun _ => Does.index_ar rfl rfl ht he (ev_of hx) (ev_of hy) h0 h1 hu ⟨rfl, rfl⟩
theorem Z.slb {len e e' id off lo' hi' : Nat} {lo hi : Option Operand} {cells : List AV} (k : Nat) (ht : arT P t = some (len, e, 1)) (hx : evO l x = some (.ptr id off)) (h2 : objs[k]? = some (id, .box e' cells)) (hb : BndsO l len lo hi lo' hi') (h1 : lo' ≤ hi') (h2' : hi' ≤ len) (h3 : lo' < len) (h4 : len ≤ maxLen := by decide) : QS P n ops H0 ⟨dst, .slice t x lo hi none, ty, ps, af, none⟩ l objs (.bsl id (off + lo') (hi' - lo')) :=
  fun hd => Does.slice_ar rfl rfl ht (ev_of hx) ⟨_, _, hd.at_ h2⟩ hb.to h1 h2' h3 h4 ⟨rfl, rfl⟩
theorem D.cpb {t' e b id o1 l1 o2 l2 m e' : Nat} {cells : List AV} {objs' : List (Nat × Ob)} {K' : AV → List (Nat × Ob) → Prop} (k : Nat) (ht : slT P t = some (e, 1, b)) (hx : evO l x = some (.bsl id o1 l1)) (hy : evO l y = some (.bsl id o2 l2)) (h2 : objs[k]? = some (id, .box e' cells)) (hm : Nat.min l2 l1 = m) (hb1 : o1 + m ≤ cells.length) (hb2 : o2 + m ≤ cells.length) (hob : objs.set k (id, .box e' (setL cells o1 ((cells.drop o2).take m))) = objs') (hk : K' (.v (.int .i64 (m : Int))) objs') :
    DS P n ops H0 ⟨dst, .call { callee := .builtin .copy, args := #[x, y], argTypes := #[t, t'] }, ty, ps, af, none⟩ l objs K' := fun hdist => by
  subst hob
  obtain ⟨a, b⟩ := hdist.set_ (.box e' (setL cells o1 ((cells.drop o2).take m))) h2
  exact Does.copy_bsl rfl rfl ht (ev_of hx) (ev_of hy) (hdist.at_ h2) hm hb1 hb2 ⟨_, a, b, hk⟩
end
end Go.Eng
end
section
namespace Go.Eng
open Go Go.RowKit
set_option linter.unusedVariables false
set_option linter.unusedSimpArgs false
set_option linter.unusedSectionVars false
variable [Rd]
theorem made_one (z : Value) (m : Nat) : madeCells #[z] m = (List.replicate m z).toArray := by
  apply Array.toList_inj.1
  rw [toList_madeCells_one]
theorem zeros_flat (zv : Value) (m : Nat) : (List.replicate m [AV.v zv]).flatten = (List.replicate m zv).map AV.v := by
  induction m with
  | zero => rfl
  | succ m ih => rw [List.replicate_succ, List.flatten_cons, ih, List.replicate_succ, List.map_cons]; rfl
section
variable {P : Program} {n : Nat} {ops : Array Oper} {T : Sl} {H H0 : Hp} {o : Oper} {K : AV → Hp → Prop} {l : List (Nat × AV)} {objs : List (Nat × Ob)} {x y : Operand} {dst : Option Nat} {ty t t2 : TypeId} {ps : String} {af : Array Edge} {u : AV}
/-- Bits turned over. -/
def comI (k : IntKind) (a : Int) : Int := k.wrap (BitVec.ofInt k.bits (if k.signed = true then -1 else k.max) ^^^ BitVec.ofInt k.bits a).toNat
theorem Does.com {x : Operand} {t : TypeId} {k : IntKind} {a : Int} (hg : o.guard = none) (ho : o.op = .unOp .xor t x) (hx : ev T x = .v (.int k a)) (hk : K (.v (.int k (comI k a))) H) : Does P n ops o T H K := by
  refine Does.val _ hg (fun ac w ρ hh hr => ?_) hk
  have h3 := hr x
  rw [hx] at h3
  refine ⟨_, ?_, .v _⟩
  unfold execOp
  rw [ho]
  simp [rep_v h3, Op.unary, Op.intBits, Sem.run_bind, Sem.run_pure, Result.andThen_ok, comI]
/-- A row of zeros. -/
theorem Does.makeRow {e b m : Nat} {ki kj : IntKind} {zv : Value} (hg : o.guard = none) (ho : o.op = .makeSlice t x y) (ht : RowT P t e 1 b) (hx : ev T x = .v (.int ki (m : Int))) (hy : ev T y = .v (.int kj (m : Int))) (hz : (P.info? e).map (·.zero) = some (some zv)) (hzc : zv.cells = #[zv]) (h1c : zv.oneCell' = true) (hb : m * b ≤ 140737488355328)
    (hk : ∀ id, H id = none → K (.own id 0 m 1) (set H id (some (.row e 1 (List.replicate m [.v zv]))))) : Does P n ops o T H K := by
  refine Does.newOb hg fun a w ρ h hr => ?_
  obtain ⟨hu, he, inf, hinf, hsi, hbi⟩ := slT_some ht.sl
  have hzr : inf.zero = some zv := by rw [hinf] at hz; simpa using hz
  have hb1 : m ≤ m * b := Nat.le_mul_of_pos_right _ ht.b
  have hxv := rep_v (by have := hr x; rw [hx] at this; exact this)
  have hyv := rep_v (by have := hr y; rw [hy] at this; exact this)
  have hm : m ≤ maxLen := by simp only [maxLen]; omega
  have hrun := run_make (P := P) w t e inf zv hu hinf hzr ki kj m m (by omega) (Int.le_refl _) (by rw [hbi, ← Int.natCast_mul, Nat.mul_comm]; omega) (by omega)
  simp only [Int.toNat_natCast, hsi, hzc, Nat.mul_one, made_one] at hrun
  have hex : (execOp a.eval o).run P w = .ok (.value (.slice (some ⟨w.heap.size, 0, none⟩) m m)) (w.alloc (.cells (List.replicate m zv).toArray e)) := by
    unfold execOp
    rw [ho]
    simp only [hxv, hyv, Sem.run_bind, hrun, Result.andThen_ok, Sem.run_pure]
  refine ⟨_, _, _, .row e 1 (List.replicate m [.v zv]), hex, below_alloc _ _, ?_, fun ρ' H' e' => ⟨by decide, List.replicate m zv, by rw [List.length_replicate]; exact own_new_row (by simp) hm, fun cs hcs => by rw [List.eq_of_mem_replicate hcs]; rfl, ?_⟩, fun id hid => ⟨.own id 0 m 1, fun ok' ρ' h' => ?_, hk id hid⟩⟩
  · intro k hk; cases hk; rw [size_alloc]; simp
  · rw [zeros_flat]
    exact repcells_v _ (by rw [List.all_eq_true]; intro v hv; rw [List.eq_of_mem_replicate hv]; exact h1c)
  · have := Rep.own (ok := ok') (w := w.alloc (.cells (List.replicate m zv).toArray e)) id 0 m 1 w.heap.size m m h' (by omega) hm
    simpa using this
/-- nil has no room. -/
theorem Does.cap_nil {e s b : Nat} (hg : o.guard = none) (ho : o.op = .call { callee := .builtin .cap, args := #[x], argTypes := #[t] }) (ht : slT P t = some (e, s, b)) (hx : ev T x = .v (.slice none 0 0)) (hk : K (.v (.int .i64 0)) H) : Does P n ops o T H K := by
  refine Does.val _ hg (fun ac w ρ hh hr => ?_) hk
  have h3 := hr x
  rw [hx] at h3
  obtain ⟨hu, he, _⟩ := slT_some ht
  exact ⟨_, run_op_cap (v' := goInt 0) (w' := w) ho (by rw [rep_v h3]; simp [Builtin.cap_, run_underlying hu]), .v _⟩
theorem Does.slice_nil {e s b : Nat} {z : Operand} {k : IntKind} (hg : o.guard = none) (ho : o.op = .slice t x none (some z) none) (ht : slT P t = some (e, s, b)) (hx : ev T x = .v (.slice none 0 0)) (hz : ev T z = .v (.int k 0)) (hk : K (.v (.slice none 0 0)) H) : Does P n ops o T H K := by
  refine Does.val _ hg (fun a w ρ hh hr => ?_) hk
  have h3 := hr x
  rw [hx] at h3
  have hxx := rep_v h3
  obtain ⟨hu, he, _⟩ := slT_some ht
  have hb := run_bnds (w := w) (A := none) (len := 0) (cap := 0) hr ht (Bnds.hi z k 0 hz) (Nat.le_refl _) (Nat.le_refl _) (Nat.le_refl _)
  refine ⟨_, run_op_slice ho (fun x => run_sliceAt_slice (P := P) (w := w) t x _ _ _ (by rw [he]; exact hu)) (by rw [hxx]; exact hb), ?_⟩
  simp [sliced]
  exact .v _
/-- Zeros behind nil. -/
theorem Does.zeros_nil {tn e b m : Nat} {kq kn : IntKind} {zv : Value} (hg : o.guard = none) (ho : o.op = .call { callee := .builtin .append, args := #[x, y], argTypes := #[t, tn] }) (ht : RowT P t e 1 b) (htn : P.underlying tn = some (.int kn)) (hx : ev T x = .v (.slice none 0 0)) (hy : ev T y = .v (.int kq (m : Int))) (h0 : 0 < m) (hz : (P.info? e).map (·.zero) = some (some zv)) (hzc : zv.cells = #[zv]) (h1c : zv.oneCell' = true) (hb : m * b ≤ 140737488355328)
    (hk : ∀ id, H id = none → K (.own id 0 m 1) (set H id (some (.row e 1 (List.replicate m [.v zv]))))) : Does P n ops o T H K := by
  refine Does.newOb hg fun a w ρ h hr => ?_
  obtain ⟨hu, he, inf, hinf, hsi, hbi⟩ := slT_some ht.sl
  have hzr : inf.zero = some zv := by rw [hinf] at hz; simpa using hz
  have hb1 : m ≤ m * b := Nat.le_mul_of_pos_right _ ht.b
  have hxv := rep_v (by have := hr x; rw [hx] at this; exact this)
  have hyv := rep_v (by have := hr y; rw [hy] at this; exact this)
  have hfit : Builtin.nextslicecap (0 + m) 0 * inf.bytes ≤ 281474976710656 := by
    rw [hbi]
    have h7 : Builtin.nextslicecap (0 + m) 0 ≤ 2 * (0 + m) := nextslicecap_le (by omega)
    have := Nat.mul_le_mul_right b h7
    rw [Nat.mul_assoc] at this
    simp only [Nat.zero_add] at this ⊢
    omega
  have hrun := Lib.run_append_grow_zeros (P := P) w t tn o.type e inf zv kq kn hu htn hinf hzr none 0 0 [] (by simp [Builtin.firstCells]) m h0 (by omega) (by omega) (by omega) (by rw [hbi]; omega) hfit
  have hge := grownCap_ge w (0 + m) 0 e
  have hle := grownCap_le_maxLen w (0 + m) 0 e (by simp only [maxLen]; omega)
  have hzl : ∀ j, (Builtin.zeroCells zv.cells j).toList = List.replicate j zv := fun j => by
    have := zeroCells_list zv.cells j (by rw [hzc]; exact Nat.zero_lt_one)
    rw [this, hzc]
    induction j with
    | zero => rfl
    | succ j ih => rw [List.replicate_succ, List.flatten_cons, ih (zeroCells_list _ _ (by rw [hzc]; exact Nat.zero_lt_one)), List.replicate_succ]; rfl
  rw [Nat.zero_add] at hrun hge hle
  refine ⟨_, .slice (some ⟨w.heap.size, 0, none⟩) m (grownCap w m 0 e), _, .row e 1 (List.replicate m [.v zv]), run_op_append2 ho (by rw [hxv, hyv]; exact hrun), ((Below.refl _ w).drew).alloc (Nat.le_refl _) _, ?_, fun ρ' H' e' => ⟨by decide, List.replicate m zv, ⟨by simp, .inr ⟨w.heap.size, grownCap w m 0 e, _, by simp, Nat.zero_le _, heap_alloc_new w.drew _, by simpa using hge, hle, ?_, ?_⟩⟩, fun cs hcs => by rw [List.eq_of_mem_replicate hcs]; rfl, ?_⟩, fun id hid => ⟨.own id 0 m 1, fun ok' ρ' hρ => ?_, hk id hid⟩⟩
  · intro k' hk'
    simp [blk] at hk'
    subst hk'
    refine ⟨Nat.le_refl _, ?_⟩
    rw [size_alloc]
    exact Nat.lt_succ_self _
  · rw [← Array.length_toList]
    simp only [Array.toList_append, hzl, List.length_append, List.length_replicate]
    simp
    omega
  · simp only [Array.toList_append, hzl, List.length_replicate, Nat.mul_one]
    simp
  · rw [zeros_flat]
    exact repcells_v _ (by rw [List.all_eq_true]; intro v hv; rw [List.eq_of_mem_replicate hv]; exact h1c)
  · have := Rep.own (ok := ok') (ρ := ρ') (w := w.drew.alloc (.cells (#[] ++ Builtin.zeroCells zv.cells m ++ Builtin.zeroCells zv.cells (grownCap w m 0 e - m)) e)) id 0 m 1 w.heap.size m (grownCap w m 0 e) hρ (by omega) hle
    simpa using this
theorem Z.com {k : IntKind} {a r : Int} (hx : evO l x = some (.v (.int k a))) (hr : comI k a = r) : QS P n ops H0 ⟨dst, .unOp .xor t x, ty, ps, af, none⟩ l objs (.v (.int k r)) := fun _ => Does.com rfl rfl (ev_of hx) ⟨by rw [hr], rfl⟩
theorem Z.cpn {e s b : Nat} (ht : slT P t = some (e, s, b)) (hx : evO l x = some (.v (.slice none 0 0))) : QS P n ops H0 ⟨dst, .call { callee := .builtin .cap, args := #[x], argTypes := #[t] }, ty, ps, af, none⟩ l objs (.v (.int .i64 0)) := fun _ => Does.cap_nil rfl rfl ht (ev_of hx) ⟨rfl, rfl⟩
theorem Z.sln {e s b : Nat} {z : Operand} {k : IntKind} (ht : slT P t = some (e, s, b)) (hx : evO l x = some (.v (.slice none 0 0))) (hz : evO l z = some (.v (.int k 0))) : QS P n ops H0 ⟨dst, .slice t x none (some z) none, ty, ps, af, none⟩ l objs (.v (.slice none 0 0)) := fun _ => Does.slice_nil rfl rfl ht (ev_of hx) (ev_of hz) ⟨rfl, rfl⟩
theorem D.mks {e b : Nat} (m : Nat) {ki kj : IntKind} {zv : Value} {K : AV → List (Nat × Ob) → Prop} (ht : RowT P t e 1 b) (hx : evO l x = some (.v (.int ki (m : Int)))) (hy : evO l y = some (.v (.int kj (m : Int)))) (hz : (P.info? e).map (·.zero) = some (some zv)) (hb : m * b ≤ 140737488355328) (hk : ∀ id, K (.own id 0 m 1) ((id, .row e 1 (List.replicate m [.v zv])) :: objs)) (hzc : zv.cells = #[zv] := by rfl) (h1c : zv.oneCell' = true := by rfl) : DS P n ops H0 ⟨dst, .makeSlice t x y, ty, ps, af, none⟩ l objs K :=
  fun hdist => Does.makeRow rfl rfl ht (ev_of hx) (ev_of hy) hz hzc h1c hb fun id hid => ⟨(id, .row e 1 (List.replicate m [.v zv])) :: objs, rfl, .cons hid hdist, hk id⟩
theorem D.azn {e b tn : Nat} (m : Nat) {kq kn : IntKind} {zv : Value} {K : AV → List (Nat × Ob) → Prop} (ht : RowT P t e 1 b) (htn : P.underlying tn = some (.int kn)) (hx : evO l x = some (.v (.slice none 0 0))) (hy : evO l y = some (.v (.int kq (m : Int)))) (h0 : 0 < m) (hz : (P.info? e).map (·.zero) = some (some zv)) (hb : m * b ≤ 140737488355328) (hk : ∀ id, K (.own id 0 m 1) ((id, .row e 1 (List.replicate m [.v zv])) :: objs)) (hzc : zv.cells = #[zv] := by rfl) (h1c : zv.oneCell' = true := by rfl) : DS P n ops H0 ⟨dst, .call { callee := .builtin .append, args := #[x, y], argTypes := #[t, tn] }, ty, ps, af, none⟩ l objs K :=
  fun hdist => Does.zeros_nil rfl rfl ht htn (ev_of hx) (ev_of hy) h0 hz hzc h1c hb fun id hid => ⟨(id, .row e 1 (List.replicate m [.v zv])) :: objs, rfl, .cons hid hdist, hk id⟩
/-- An array's literal, one-cell elements. -/
theorem run_op_build_ar {a : Act} {w : World} {t : TypeId} {parts : Array (Nat × Operand)} {len e : Nat} {zv : Value} {cells : List Value} (ho : o.op = .build t parts) (ht : arT P t = some (len, e, 1)) (hz : (P.info? t).map (·.zero) = some (some zv))
    (h : Instr.fill (fun i => some (i, 1)) zv.cells (parts.toList.map fun p => (p.1, a.eval p.2)) = some cells.toArray) : (execOp a.eval o).run P w = .ok (.value (.agg cells.toArray)) w := by
  have hb : P.built t (parts.map fun (i, x) => (i, a.eval x)).toList = some cells.toArray := by
    obtain ⟨hu, inf, hi, hs⟩ := arT_some ht
    obtain ⟨it, hit, hz'⟩ := Option.map_eq_some_iff.1 hz
    unfold Program.built
    simp only [hit, hu, hz', hi, hs, Nat.mul_one]
    rw [← h]
    congr 1
    simp
  unfold execOp
  rw [ho]
  simp only [run_build w t _ _ hb, Sem.run_bind, Sem.run_pure, Result.andThen_ok]
theorem Z.bar {parts : Array (Nat × Operand)} {len e : Nat} {zv : Value} {zs : List Value} {us zus rs : List AV} {uss : List (List AV)} (ht : arT P t = some (len, e, 1)) (hz : (P.info? t).map (·.zero) = some (some zv)) (ha : argsO l (parts.toList.map (·.2)) = some us) (hf : flatsO us = some uss) (hc : (uss.all fun cs => cs.all cellAV && cs.length == 1) = true) (hv : vals zs = some zus) (hr : foldO zus (parts.toList.map (·.1)) uss = some rs)
    (hzs : zv.cells.toList = zs := by rfl) (hz1 : zs.all (·.oneCell') = true := by rfl) : QS P n ops H0 ⟨dst, .build t parts, ty, ps, af, none⟩ l objs (.agg rs) := by
  intro _
  have e1 := args_of ha
  have e2 := flatsO_eq hf
  have e3 := foldO_eq hr
  have e4 : (parts.toList.map fun p => ev (ofL l) p.2) = us := by rw [← e1, List.map_map]; rfl
  have hul : us.length = parts.toList.length := by rw [← e4, List.length_map]
  have husl : uss.length = us.length := by rw [← e2, List.length_map]
  refine Does.val (.agg rs) rfl (fun a w ρ hh hr2 => ?_) ⟨rfl, rfl⟩
  obtain ⟨cells', f1, f2⟩ := run_fill (ok := okOf ρ _) (ρ := ρ) (w := w) (fun i => some (i, 1)) (parts.toList.map fun p => (p.1, a.eval p.2)) (parts.toList.map fun p => ev (ofL l) p.2) (parts.toList.map (·.1)) (zs.map .v) zs (by simp) (by simp) (fun j p u off h1 h2 h3 => by
    rw [List.getElem?_map] at h1 h2 h3
    cases hj : parts.toList[j]? with
    | none => rw [hj] at h1; cases h1
    | some q =>
      rw [hj] at h1 h2 h3
      cases h1; cases h2; cases h3
      have h3' : us[j]? = some (ev (ofL l) q.2) := by rw [← e4, List.getElem?_map, hj]; rfl
      have h4 : uss[j]? = some (flat (ev (ofL l) q.2)) := by rw [← e2, List.getElem?_map, h3']; rfl
      have hcc := List.all_eq_true.1 hc _ (List.mem_of_getElem? h4)
      rw [Bool.and_eq_true, beq_iff_eq] at hcc
      have h5 := e3.2.2 j q.1 _ (by rw [List.getElem?_map, hj]; rfl) h4
      rw [← vals_eq hv] at h5
      exact ⟨hr2 q.2, hcc.1, by rw [hcc.2], h5⟩) (repcells_v zs hz1)
  have hza : zv.cells = zs.toArray := by rw [← hzs]
  refine ⟨_, run_op_build_ar rfl ht hz (by rw [hza]; exact f1), ?_⟩
  have := rep_agg_cells f2
  rw [e4, e2, vals_eq hv, e3.1] at this
  exact this
def addW (a b : Int) : Int := IntKind.u32.wrap (a + b)
def xorW (a b : Int) : Int := IntKind.u32.wrap (BitVec.ofInt IntKind.u32.bits a ^^^ BitVec.ofInt IntKind.u32.bits b).toNat
def andW (a b : Int) : Int := IntKind.u32.wrap (BitVec.ofInt IntKind.u32.bits a &&& BitVec.ofInt IntKind.u32.bits b).toNat
def orW (a b : Int) : Int := IntKind.u32.wrap (BitVec.ofInt IntKind.u32.bits a ||| BitVec.ofInt IntKind.u32.bits b).toNat
def shlW (a n : Int) : Int := IntKind.u32.wrap (a * 2 ^ min n.toNat IntKind.u32.bits)
def shrW (a n : Int) : Int := a.fdiv (2 ^ min n.toNat IntKind.u32.bits)
def notW (a : Int) : Int := comI .u32 a
theorem Z.wadd {a b : Int} (hx : evO l x = some (.v (.int .u32 a))) (hy : evO l y = some (.v (.int .u32 b))) : QS P n ops H0 ⟨dst, .binOp .add t x y t2, ty, ps, af, none⟩ l objs (.v (.int .u32 (addW a b))) := Z.bi hx hy rfl
theorem Z.wxor {a b : Int} (hx : evO l x = some (.v (.int .u32 a))) (hy : evO l y = some (.v (.int .u32 b))) : QS P n ops H0 ⟨dst, .binOp .xor t x y t2, ty, ps, af, none⟩ l objs (.v (.int .u32 (xorW a b))) := Z.bi hx hy rfl
theorem Z.wand {a b : Int} (hx : evO l x = some (.v (.int .u32 a))) (hy : evO l y = some (.v (.int .u32 b))) : QS P n ops H0 ⟨dst, .binOp .and t x y t2, ty, ps, af, none⟩ l objs (.v (.int .u32 (andW a b))) := Z.bi hx hy rfl
theorem Z.wor {a b : Int} (hx : evO l x = some (.v (.int .u32 a))) (hy : evO l y = some (.v (.int .u32 b))) : QS P n ops H0 ⟨dst, .binOp .or t x y t2, ty, ps, af, none⟩ l objs (.v (.int .u32 (orW a b))) := Z.bi hx hy rfl
theorem Z.wshl {a b : Int} {k : IntKind} (hx : evO l x = some (.v (.int .u32 a))) (hy : evO l y = some (.v (.int k b))) (hb : 0 ≤ b) : QS P n ops H0 ⟨dst, .binOp .shl t x y t2, ty, ps, af, none⟩ l objs (.v (.int .u32 (shlW a b))) := Z.shl hx hy hb rfl
theorem Z.wshr {a b : Int} {k : IntKind} (hx : evO l x = some (.v (.int .u32 a))) (hy : evO l y = some (.v (.int k b))) (hb : 0 ≤ b) : QS P n ops H0 ⟨dst, .binOp .shr t x y t2, ty, ps, af, none⟩ l objs (.v (.int .u32 (shrW a b))) := Z.shr hx hy hb rfl
theorem Z.wnot {a : Int} (hx : evO l x = some (.v (.int .u32 a))) : QS P n ops H0 ⟨dst, .unOp .xor t x, ty, ps, af, none⟩ l objs (.v (.int .u32 (notW a))) := Z.com hx rfl
theorem setO_one : ∀ (l : List AV) (off : Nat) (u : AV), off < l.length → setO l off [u] = some (l.set off u)
  | x :: r, 0, u, _ => by simp [setO]
  | x :: r, m + 1, u, h => by
    rw [setO, setO_one r m u (by simpa using h)]
    rfl
/-- A store into a row, with the rows that stand behind it. -/
theorem D.sre {m off e sz : Nat} {bb : Bool} {rows rws : List (List AV)} {cells : List AV} {id : Nat} {K : AV → List (Nat × Ob) → Prop} (k : Nat) (ht : tyOf P t = some (bb, sz)) (hx : evO l x = some (.ptr id off)) (h2 : objs[k]? = some (id, .row e sz rows)) (hoff : off = m * sz) (hi : m < rows.length) (hy : evO l y = some u) (hf : flatO u = some cells) (hc : cells.all cellAV = true) (hl : cells.length = sz) (hrows : ∀ cs ∈ rows, cs.length = sz) (hw : rows.set m cells = rws)
    (hk : ∀ u, K u (objs.set k (id, .row e sz rws))) (hz : 0 < sz := by decide) : DS P n ops H0 ⟨dst, .store t x y, ty, ps, af, none⟩ l objs K := by
  subst hw
  exact D.str k ht hx h2 hoff hi hy hf hc hl hrows hk hz
end
end Go.Eng
end
