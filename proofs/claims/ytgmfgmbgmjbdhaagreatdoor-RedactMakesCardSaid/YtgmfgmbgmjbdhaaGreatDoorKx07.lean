/- The engine, ninth part: regions whose order is open: quiet operations, wherever they come; a chain of others. -/
import Derived.Test.YtgmfgmbgmjbdhaaGreatDoorKx06
import Derived.Orders
set_option linter.unusedSimpArgs false
namespace Go.Eng
open Go Go.RowKit
set_option linter.unusedSectionVars false
variable [Rd]
def depsL (b : Nat) : List (Option (Nat × AV)) → Nat → List (Nat × AV)
  | [], _ => []
  | none :: r, k => depsL b r (k + 1)
  | some p :: r, k => if b.testBit k then p :: depsL b r (k + 1) else depsL b r (k + 1)
/-- What may or may not be done when i is. ds: the operations' destinations. -/
def loose (B : List Nat) (i : Nat) : List (Option Nat) → Nat → List Nat
  | [], _ => []
  | none :: r, k => loose B i r (k + 1)
  | some d :: r, k => if k = i ∨ (B.getD i 0).testBit k = true ∨ (B.getD k 0).testBit i = true then loose B i r (k + 1) else d :: loose B i r (k + 1)
def keepL (U : List Nat) : List (Nat × AV) → List (Nat × AV)
  | [] => []
  | p :: r => if U.contains p.1 then keepL U r else p :: keepL U r
/-- The slots as operation i may count on them (cr: what the chain gave). -/
def lmin (B : List Nat) (ds : List (Option Nat)) (pre : List (Option (Nat × AV))) (cr l : List (Nat × AV)) (i : Nat) : List (Nat × AV) := cr ++ (depsL (B.getD i 0) pre 0 ++ keepL (loose B i ds 0) l)
/-- The slots when the listed ones are done. -/
def lookB (f : Nat → Bool) (T : Sl) : List (Option (Nat × AV)) → Nat → Nat → AV
  | [], _, t => T t
  | none :: r, k, t => lookB f T r (k + 1) t
  | some p :: r, k, t => if t = p.1 ∧ f k = true then p.2 else lookB f T r (k + 1) t
def lookC (cr : List (Nat × AV)) (T : Sl) : Sl := fun t => match look cr t with | some u => u | none => T t
def dstsOf (ol : List Oper) : List (Option Nat) := ol.map (·.dst)
/-- B: what each operation waits for, all of it. -/
def edgesOk (B : List Nat) : List Oper → Nat → Bool
  | [], _ => true
  | o :: r, i => (o.after.toList.all fun e => !Region.binds .any e || decide (e.on < i)) && ((List.range i).all fun j => !(B.getD i 0).testBit j || o.after.toList.any fun e => Region.binds .any e && (e.on == j || (B.getD e.on 0).testBit j)) && ((B.getD i 0) < 2 ^ i) && edgesOk B r (i + 1)
def keysOf (pre : List (Option (Nat × AV))) : List Nat := pre.filterMap fun o => o.map (·.1)
/-- pre and the chain cover the operations; the quiet ones wait for no other; of the chain each waits for all that stand before it in it; those of k1 are waited for by all of the chain. -/
def chainOk (B : List Nat) (pre : List (Option Nat)) (cs k1 : List Nat) (ds : List (Option Nat)) : Bool :=
  (pre.length == ds.length) &&
  ((List.range pre.length).all fun i => match pre.getD i none with
    | some d => !cs.contains i && ds.getD i none == some d && (cs.all fun c => !(B.getD i 0).testBit c)
    | none => cs.contains i) &&
  ((List.range cs.length).all fun a => (cs.getD a 0 < pre.length) && ((List.range a).all fun b => (B.getD (cs.getD a 0) 0).testBit (cs.getD b 0)) && (k1.all fun i => (B.getD (cs.getD a 0) 0).testBit i)) &&
  decide (ds.filterMap id).Nodup
section
variable {P : Program} {n : Nat} {Q : AEx → Sl → Hp → Prop} {H0 : Hp} {l cr : List (Nat × AV)} {pre : List (Option (Nat × AV))} {objs keep : List (Nat × Ob)} {ol : List Oper} {B cs k1 : List Nat} {E : Ent}
theorem edgesOk_get : ∀ {ol : List Oper} {k : Nat}, edgesOk B ol k = true → ∀ {i : Nat} {o : Oper}, ol[i]? = some o →
    (∀ e ∈ o.after, Region.binds .any e = true → e.on < k + i) ∧ (∀ j, (B.getD (k + i) 0).testBit j = true → j < k + i ∧ ∃ e ∈ o.after, Region.binds .any e = true ∧ (e.on = j ∨ (B.getD e.on 0).testBit j = true))
  | [], k, _, i, o, h => by simp at h
  | p :: r, k, h, i, o, hi => by
    unfold edgesOk at h
    simp only [Bool.and_eq_true, decide_eq_true_eq] at h
    obtain ⟨⟨⟨h1, h2⟩, h3⟩, h4⟩ := h
    cases i with
    | zero =>
      simp at hi
      subst hi
      refine ⟨fun e he hb => ?_, fun j hj => ?_⟩
      · have := List.all_eq_true.1 h1 e (by simpa using he)
        simpa [hb] using this
      · have hlt : j < k := by
          by_cases hjk : j < k
          · exact hjk
          · have h5 : B.getD k 0 < 2 ^ j := Nat.lt_of_lt_of_le h3 (Nat.pow_le_pow_right (by decide) (by omega))
            have h6 : (B.getD k 0).testBit j = true := hj
            rw [Nat.testBit_lt_two_pow h5] at h6
            cases h6
        refine ⟨hlt, ?_⟩
        have h5 := List.all_eq_true.1 h2 j (by simpa using hlt)
        simp only [Nat.add_zero] at hj
        rw [hj] at h5
        simp only [Bool.not_true, Bool.false_or, List.any_eq_true, Bool.and_eq_true, Bool.or_eq_true, beq_iff_eq] at h5
        obtain ⟨e, he, hb, hc⟩ := h5
        exact ⟨e, by simpa using he, hb, hc⟩
    | succ i =>
      have := edgesOk_get h4 (i := i) (by simpa using hi)
      have e1 : k + 1 + i = k + (i + 1) := by omega
      rw [e1] at this
      exact this
/-- Listed: with each operation all that it waits for. -/
def Down (B : List Nat) (f : Nat → Bool) : Prop := ∀ i j, f i = true → (B.getD i 0).testBit j = true → f j = true
theorem ready_mem {ops : Array Oper} {listed : Array Bool} {i : Nat} (h : i ∈ Region.ready .any ops listed) : i < ops.size ∧ listed.getD i true = false ∧ ∃ o, ops[i]? = some o ∧ ∀ e ∈ o.after, Region.binds .any e = true → listed.getD e.on false = true := by
  unfold Region.ready at h
  simp only [List.mem_filter, List.mem_range, Bool.and_eq_true, Bool.not_eq_true'] at h
  obtain ⟨h1, h2, h3⟩ := h
  refine ⟨h1, h2, ?_⟩
  cases ho : ops[i]? with
  | none => rw [ho] at h3; simp at h3
  | some o =>
    rw [ho] at h3
    refine ⟨o, rfl, fun e he hb => ?_⟩
    simp only [Option.map_some, Option.getD_some, Array.all_eq_true_iff_forall_mem] at h3
    have := h3 e he
    simpa [hb] using this
theorem ready_of {ops : Array Oper} {listed : Array Bool} {i : Nat} {o : Oper} (h1 : i < ops.size) (h2 : listed.getD i true = false) (ho : ops[i]? = some o) (h : ∀ e ∈ o.after, Region.binds .any e = true → listed.getD e.on false = true) : i ∈ Region.ready .any ops listed := by
  unfold Region.ready
  simp only [List.mem_filter, List.mem_range, Bool.and_eq_true, Bool.not_eq_true']
  refine ⟨h1, h2, ?_⟩
  rw [ho]
  simp only [Option.map_some, Option.getD_some, Array.all_eq_true_iff_forall_mem]
  intro e he
  cases hb : Region.binds .any e
  · rfl
  · simp only [Bool.not_true, Bool.false_or]; exact h e he hb
def fOf (listed : Array Bool) : Nat → Bool := fun i => listed.getD i false
theorem fOf_set {listed : Array Bool} {i : Nat} (hi : i < listed.size) (j : Nat) : fOf (listed.setIfInBounds i true) j = if j = i then true else fOf listed j := by
  unfold fOf
  rw [Array.getD_eq_getD_getElem?, Array.getD_eq_getD_getElem?, Array.getElem?_setIfInBounds]
  by_cases h : i = j
  · subst h; simp [hi]
  · rw [if_neg h, if_neg (Ne.symm h)]
theorem getD_true {listed : Array Bool} {i : Nat} (hi : i < listed.size) : listed.getD i true = fOf listed i := by
  unfold fOf; simp [Array.getD, hi]
theorem wpOpIn_get {F : Fence} {m : Nat} {P : Program} {ops : Array Oper} {Qc : Exit → Act → World → Prop} {i : Nat} {o : Oper} {K : Act → World → Prop} {a : Act} {w : World} (ho : ops[i]? = some o) : wpOpIn F m P ops Qc i K a w = (if Region.wanted o (yielded ops a.tmps) then o.wpIn F m P a w K Qc else (∀ f, o.about P w a.eval = some f → F.fn f) ∧ K (a.put o.dst undef) w) := by
  unfold wpOpIn; rw [ho]
theorem keepL_look {U : List Nat} : ∀ {r : List (Nat × AV)} {t : Nat} {u : AV}, look (keepL U r) t = some u → look r t = some u ∧ U.contains t = false
  | [], t, u, h => by simp [keepL, look] at h
  | p :: r, t, u, h => by
    unfold keepL at h
    split at h
    · rename_i hc
      obtain ⟨h1, h2⟩ := keepL_look h
      refine ⟨?_, h2⟩
      unfold look
      rw [if_neg]
      · exact h1
      · intro ht; subst ht; rw [hc] at h2; cases h2
    · rename_i hc
      unfold look at h ⊢
      split at h
      · rename_i ht
        rw [if_pos ht]
        exact ⟨h, by rw [ht]; simpa using hc⟩
      · rename_i ht
        rw [if_neg ht]
        exact keepL_look h
theorem look_append {a b : List (Nat × AV)} {t : Nat} : look (a ++ b) t = match look a t with | some u => some u | none => look b t := by
  induction a with
  | nil => simp [look]
  | cons p r ih =>
    obtain ⟨d, u⟩ := p
    rw [List.cons_append]
    show (if t = d then some u else look (r ++ b) t) = (match (if t = d then some u else look r t) with | some u => some u | none => look b t)
    by_cases h : t = d
    · rw [if_pos h, if_pos h]
    · rw [if_neg h, if_neg h]; exact ih
theorem look_mem : ∀ {r : List (Nat × AV)} {t : Nat} {u : AV}, look r t = some u → (t, u) ∈ r
  | [], t, u, h => by cases h
  | (d, v) :: r, t, u, h => by
    unfold look at h
    split at h
    · rename_i ht; cases h; subst ht; simp
    · simp [look_mem h]
theorem look_nodup : ∀ {r : List (Nat × AV)} {t : Nat} {u : AV}, (r.map (·.1)).Nodup → (t, u) ∈ r → look r t = some u
  | [], t, u, _, h => by simp at h
  | (d, v) :: r, t, u, hn, h => by
    simp only [List.map_cons, List.nodup_cons] at hn
    unfold look
    rcases List.mem_cons.1 h with h | h
    · cases h; rw [if_pos rfl]
    · have : t ≠ d := fun e => hn.1 (by rw [← e]; exact List.mem_map_of_mem (f := (·.1)) h)
      rw [if_neg this]
      exact look_nodup hn.2 h
theorem filter_one {f : Nat → Bool} {i m : Nat} (h : f i = false) (hi : i < m) : ((List.range m).filter fun k => (k == i) || f k).length = ((List.range m).filter f).length + 1 := by
  induction m with
  | zero => omega
  | succ m ih =>
    rw [List.range_succ, List.filter_append, List.filter_append, List.length_append, List.length_append]
    by_cases him : i = m
    · subst him
      have e1 : (List.range i).filter (fun k => (k == i) || f k) = (List.range i).filter f := by
        apply List.filter_congr
        intro k hk
        have : k ≠ i := by have := List.mem_range.1 hk; omega
        simp [this]
      rw [e1]
      simp [h]
    · have := ih (by omega)
      have hmi : (m == i) = false := by simp; omega
      rw [this]
      simp only [List.filter_cons, hmi, Bool.false_or, List.filter_nil]
      omega
theorem lookB_of {f : Nat → Bool} {T : Sl} : ∀ {r : List (Option (Nat × AV))} {k j d : Nat} {u : AV}, (keysOf r).Nodup → r[j]? = some (some (d, u)) → f (k + j) = true → lookB f T r k d = u
  | [], k, j, d, u, _, h, _ => by simp at h
  | none :: r, k, 0, d, u, _, h, _ => by simp at h
  | none :: r, k, j + 1, d, u, hn, h, hf => by
    have := lookB_of (f := f) (T := T) (r := r) (k := k + 1) (by simpa [keysOf] using hn) (by simpa using h) (by rw [← hf]; congr 1; omega)
    exact this
  | some p :: r, k, 0, d, u, hn, h, hf => by
    simp at h; subst h
    have hf' : f k = true := hf
    simp [lookB, hf']
  | some p :: r, k, j + 1, d, u, hn, h, hf => by
    have h' : r[j]? = some (some (d, u)) := by simpa using h
    have hn' : (p.1 :: keysOf r).Nodup := by simpa [keysOf] using hn
    rw [List.nodup_cons] at hn'
    have hne : d ≠ p.1 := fun e => hn'.1 (by
      rw [← e]
      exact List.mem_filterMap.2 ⟨some (d, u), List.mem_of_getElem? h', rfl⟩)
    simp only [lookB]
    rw [if_neg (fun h => hne h.1)]
    exact lookB_of (f := f) (T := T) (k := k + 1) hn'.2 h' (by rw [← hf]; congr 1; omega)
theorem lookB_old {f : Nat → Bool} {T : Sl} : ∀ {r : List (Option (Nat × AV))} {k t : Nat}, (∀ j d u, r[j]? = some (some (d, u)) → d = t → f (k + j) = false) → lookB f T r k t = T t
  | [], k, t, _ => rfl
  | none :: r, k, t, h => lookB_old (r := r) (k := k + 1) (fun j d u h1 h2 => by have := h (j + 1) d u (by simpa using h1) h2; rw [← this]; congr 1; omega)
  | some p :: r, k, t, h => by
    simp only [lookB]
    rw [if_neg]
    · exact lookB_old (fun j d u h1 h2 => by have := h (j + 1) d u (by simpa using h1) h2; rw [← this]; congr 1; omega)
    · rintro ⟨h1, h2⟩
      have := h 0 p.1 p.2 (by simp) h1.symm
      simp only [Nat.add_zero] at this
      rw [this] at h2; cases h2
theorem depsL_look {b : Nat} : ∀ {r : List (Option (Nat × AV))} {k t : Nat} {u : AV}, look (depsL b r k) t = some u → ∃ j, r[j]? = some (some (t, u)) ∧ b.testBit (k + j) = true
  | [], k, t, u, h => by simp [depsL, look] at h
  | none :: r, k, t, u, h => by
    obtain ⟨j, h1, h2⟩ := depsL_look (r := r) (k := k + 1) h
    exact ⟨j + 1, by simpa using h1, by rw [← h2]; congr 1; omega⟩
  | some p :: r, k, t, u, h => by
    unfold depsL at h
    split at h
    · rename_i hb
      obtain ⟨pd, pu⟩ := p
      have h' : (if t = pd then some pu else look (depsL b r (k + 1)) t) = some u := h
      split at h'
      · rename_i ht
        cases h'
        exact ⟨0, by simp [ht], hb⟩
      · obtain ⟨j, h1, h2⟩ := depsL_look h'
        exact ⟨j + 1, by simpa using h1, by rw [← h2]; congr 1; omega⟩
    · obtain ⟨j, h1, h2⟩ := depsL_look h
      exact ⟨j + 1, by simpa using h1, by rw [← h2]; congr 1; omega⟩
theorem depsL_some {b : Nat} : ∀ {r : List (Option (Nat × AV))} {k j d : Nat} {u : AV}, r[j]? = some (some (d, u)) → b.testBit (k + j) = true → ∃ v, look (depsL b r k) d = some v
  | [], k, j, d, u, h, _ => by simp at h
  | none :: r, k, 0, d, u, h, _ => by simp at h
  | none :: r, k, j + 1, d, u, h, hb => depsL_some (r := r) (k := k + 1) (j := j) (by simpa using h) (by rw [← hb]; congr 1; omega)
  | some p :: r, k, 0, d, u, h, hb => by
    simp at h; subst h
    simp only [Nat.add_zero] at hb
    unfold depsL
    rw [if_pos hb]
    exact ⟨u, by simp [look]⟩
  | some p :: r, k, j + 1, d, u, h, hb => by
    obtain ⟨v, hv⟩ := depsL_some (r := r) (k := k + 1) (by simpa using h) (by rw [← hb]; congr 1; omega)
    obtain ⟨pd, pu⟩ := p
    unfold depsL
    split
    · show ∃ v, (if d = pd then some pu else look (depsL b r (k + 1)) d) = some v
      split
      · exact ⟨_, rfl⟩
      · exact ⟨v, hv⟩
    · exact ⟨v, hv⟩
theorem loose_mem {i : Nat} : ∀ {r : List (Option Nat)} {k j d : Nat}, r[j]? = some (some d) → k + j ≠ i → (B.getD i 0).testBit (k + j) = false → (B.getD (k + j) 0).testBit i = false → (loose B i r k).contains d = true
  | [], k, j, d, h, _, _, _ => by simp at h
  | none :: r, k, 0, d, h, _, _, _ => by simp at h
  | none :: r, k, j + 1, d, h, h1, h2, h3 => by
    have e1 : k + (j + 1) = k + 1 + j := by omega
    rw [e1] at h1 h2 h3
    exact loose_mem (r := r) (k := k + 1) (by simpa using h) h1 h2 h3
  | some p :: r, k, 0, d, h, h1, h2, h3 => by
    simp at h; subst h
    unfold loose
    rw [if_neg (by
      simp only [Nat.add_zero] at h1 h2 h3
      rintro (h4 | h4 | h4)
      · exact h1 h4
      · rw [h2] at h4; cases h4
      · rw [h3] at h4; cases h4)]
    simp
  | some p :: r, k, j + 1, d, h, h1, h2, h3 => by
    have e1 : k + (j + 1) = k + 1 + j := by omega
    rw [e1] at h1 h2 h3
    have := loose_mem (r := r) (k := k + 1) (by simpa using h) h1 h2 h3
    unfold loose
    split
    · exact this
    · simp only [List.contains_cons, Bool.or_eq_true]; exact .inr this
theorem lookB_congr {f f' : Nat → Bool} {T T' : Sl} : ∀ {r : List (Option (Nat × AV))} {k t : Nat}, (∀ j d u, r[j]? = some (some (d, u)) → d = t → f (k + j) = f' (k + j)) → T t = T' t → lookB f T r k t = lookB f' T' r k t
  | [], k, t, _, h => h
  | none :: r, k, t, h, hT => lookB_congr (f := f) (f' := f') (r := r) (k := k + 1) (fun j d u h1 h2 => by
      have e : k + 1 + j = k + (j + 1) := by omega
      rw [e]; exact h (j + 1) d u (by simpa using h1) h2) hT
  | some p :: r, k, t, h, hT => by
    simp only [lookB]
    have ih := lookB_congr (f := f) (f' := f') (T := T) (T' := T') (r := r) (k := k + 1) (t := t) (fun j d u h1 h2 => by
      have e : k + 1 + j = k + (j + 1) := by omega
      rw [e]; exact h (j + 1) d u (by simpa using h1) h2) hT
    by_cases ht : t = p.1
    · have h0 := h 0 p.1 p.2 (by simp) ht.symm
      simp only [Nat.add_zero] at h0
      rw [h0, ih]
    · rw [if_neg (fun h => ht h.1), if_neg (fun h => ht h.1), ih]
def QS (P : Program) (n : Nat) (ops : Array Oper) (H0 : Hp) (o : Oper) (l : List (Nat × AV)) (objs : List (Nat × Ob)) (u : AV) : Prop :=
  Dist H0 objs → Does P n ops o (ofL l) (extH H0 objs) (fun u' H' => u' = u ∧ H' = extH H0 objs)
/-- Objects that stand as they stood. -/
inductive Has : List (Nat × Ob) → List (Nat × Ob) → Prop
  | n {objs : List (Nat × Ob)} : Has [] objs
  | c {p : Nat × Ob} {r objs : List (Nat × Ob)} (k : Nat) (h : objs[k]? = some p) (t : Has r objs) : Has (p :: r) objs
theorem Has.get {p : Nat × Ob} : ∀ {r objs : List (Nat × Ob)} {j : Nat}, Has r objs → r[j]? = some p → ∃ k : Nat, objs[k]? = some p
  | [], _, j, _, h => by simp at h
  | _ :: _, _, 0, .c k h _, hj => by simp at hj; subst hj; exact ⟨k, h⟩
  | _ :: _, _, j + 1, .c _ _ t, hj => t.get (j := j) (by simpa using hj)
/-- The chain, one by one; then what stands behind the region. -/
def CH (P : Program) (n : Nat) (ol : List Oper) (Q : AEx → Sl → Hp → Prop) (H0 : Hp) (B : List Nat) (pre : List (Option (Nat × AV))) (l : List (Nat × AV)) (keep : List (Nat × Ob)) : List Nat → List (Nat × AV) → List (Nat × Ob) → Prop
  | [], cr, objs => Has keep objs ∧ UQ Q H0 .normal (cr ++ ((pre.filterMap id).reverse ++ l)) objs
  | c :: cs, cr, objs => Has keep objs ∧ ∃ o, ol[c]? = some o ∧ (∀ d, o.dst = some d → d < n) ∧ (Dist H0 objs → Does P n ol.toArray o (ofL (lmin B (dstsOf ol) pre cr l c)) (extH H0 objs) (fun u H' => ∃ objs', H' = extH H0 objs' ∧ Dist H0 objs' ∧
      CH P n ol Q H0 B pre l keep cs (match o.dst with | some d => (d, u) :: cr | none => cr) objs'))
theorem CH.has {P : Program} {n : Nat} {ol : List Oper} {Q : AEx → Sl → Hp → Prop} {H0 : Hp} {B : List Nat} {pre : List (Option (Nat × AV))} {l cr : List (Nat × AV)} {keep objs : List (Nat × Ob)} : ∀ {cs : List Nat}, CH P n ol Q H0 B pre l keep cs cr objs → Has keep objs
  | [], h => h.1
  | _ :: _, h => h.1
structure Chain (B : List Nat) (ol : List Oper) (pre : List (Option (Nat × AV))) (cs k1 : List Nat) : Prop where
  len : pre.length = ol.length
  quiet : ∀ (i d : Nat) (u : AV), pre[i]? = some (some (d, u)) → i ∉ cs ∧ (∃ o, ol[i]? = some o ∧ o.dst = some d) ∧ ∀ c ∈ cs, (B.getD i 0).testBit c = false
  rest : ∀ (i : Nat), pre[i]? = some none → i ∈ cs
  lt : ∀ c ∈ cs, c < ol.length
  order : ∀ (a ca cb : Nat), 1 ≤ a → cs[a + 1]? = some ca → cs[a]? = some cb → (B.getD ca 0).testBit cb = true
  inj : ∀ (a b c : Nat), cs[a]? = some c → cs[b]? = some c → a = b
  first : ∀ c ∈ cs, ∀ i ∈ k1, (B.getD c 0).testBit i = true
  nodup : ∀ (i j d : Nat) (oi oj : Oper), ol[i]? = some oi → ol[j]? = some oj → oi.dst = some d → oj.dst = some d → i = j
theorem nodup_filterMap {α : Type} : ∀ {l : List (Option α)}, (l.filterMap id).Nodup → ∀ {i j : Nat} {d : α}, l[i]? = some (some d) → l[j]? = some (some d) → i = j
  | [], _, i, j, d, h, _ => by simp at h
  | none :: r, hn, 0, _, d, h, _ => by simp at h
  | none :: r, hn, _ + 1, 0, d, _, h => by simp at h
  | none :: r, hn, i + 1, j + 1, d, h1, h2 => by
    have := nodup_filterMap (l := r) (by simpa using hn) (i := i) (j := j) (by simpa using h1) (by simpa using h2)
    omega
  | some a :: r, hn, i, j, d, h1, h2 => by
    have hn' : (a :: r.filterMap id).Nodup := by simpa using hn
    rw [List.nodup_cons] at hn'
    cases i with
    | zero =>
      cases j with
      | zero => rfl
      | succ j =>
        simp at h1; subst h1
        exact absurd (List.mem_filterMap.2 ⟨some a, List.mem_of_getElem? (by simpa using h2 : r[j]? = some (some a)), rfl⟩ : a ∈ r.filterMap id) hn'.1
    | succ i =>
      cases j with
      | zero =>
        simp at h2; subst h2
        exact absurd (List.mem_filterMap.2 ⟨some a, List.mem_of_getElem? (by simpa using h1 : r[i]? = some (some a)), rfl⟩ : a ∈ r.filterMap id) hn'.1
      | succ j =>
        have := nodup_filterMap hn'.2 (i := i) (j := j) (by simpa using h1) (by simpa using h2)
        omega
/-- The same, where the first two of the chain may come in either order. -/
def chainOkW (B : List Nat) (pre : List (Option Nat)) (cs k1 : List Nat) (ds : List (Option Nat)) : Bool :=
  (pre.length == ds.length) &&
  ((List.range pre.length).all fun i => match pre.getD i none with
    | some d => !cs.contains i && ds.getD i none == some d && (cs.all fun c => !(B.getD i 0).testBit c)
    | none => cs.contains i) &&
  ((List.range cs.length).all fun a => (cs.getD a 0 < pre.length) && (decide (a < 2) || (B.getD (cs.getD a 0) 0).testBit (cs.getD (a - 1) 0)) && (k1.all fun i => (B.getD (cs.getD a 0) 0).testBit i)) &&
  decide (ds.filterMap id).Nodup && decide cs.Nodup
theorem Chain.ofW (h : chainOkW B (pre.map fun o => o.map (·.1)) cs k1 (dstsOf ol) = true) : Chain B ol pre cs k1 := by
  unfold chainOkW at h
  simp only [Bool.and_eq_true, beq_iff_eq, decide_eq_true_eq, List.all_eq_true, List.mem_range, List.length_map] at h
  obtain ⟨⟨⟨⟨h1, h2⟩, h3⟩, h4⟩, hnd⟩ := h
  have hlen : pre.length = ol.length := by rw [h1]; simp [dstsOf]
  have hg : ∀ i, (pre.map fun o => o.map (·.1)).getD i none = match pre[i]? with | some (some p) => some p.1 | _ => none := by
    intro i
    rw [List.getD_eq_getElem?_getD, List.getElem?_map]
    cases pre[i]? with
    | none => rfl
    | some o => cases o <;> rfl
  refine ⟨hlen, ?_, ?_, ?_, ?_, ?_, ?_, ?_⟩
  · intro i d u hi
    have hil : i < pre.length := (List.getElem?_eq_some_iff.1 hi).1
    have h5 := h2 i hil
    rw [hg, hi] at h5
    simp only [Bool.and_eq_true, Bool.not_eq_true', beq_iff_eq, List.all_eq_true] at h5
    obtain ⟨⟨h6, h7⟩, h8⟩ := h5
    refine ⟨by simpa using h6, ?_, fun c hc => by simpa using h8 c hc⟩
    obtain ⟨o, ho⟩ : ∃ o, ol[i]? = some o := ⟨_, List.getElem?_eq_getElem (by omega)⟩
    refine ⟨o, ho, ?_⟩
    rw [List.getD_eq_getElem?_getD, dstsOf, List.getElem?_map, ho] at h7
    simpa using h7
  · intro i hi
    have hil : i < pre.length := (List.getElem?_eq_some_iff.1 hi).1
    have h5 := h2 i hil
    rw [hg, hi] at h5
    simpa using h5
  · intro c hc
    obtain ⟨a, ha⟩ := List.getElem?_of_mem hc
    have h5 := h3 a (List.getElem?_eq_some_iff.1 ha).1
    have e : cs.getD a 0 = c := by rw [List.getD_eq_getElem?_getD, ha]; rfl
    rw [e] at h5
    rw [← hlen]; exact h5.1.1
  · intro a ca cb ha1 ha hb
    have h5 := h3 (a + 1) (List.getElem?_eq_some_iff.1 ha).1
    have ea : cs.getD (a + 1) 0 = ca := by rw [List.getD_eq_getElem?_getD, ha]; rfl
    have eb : cs.getD (a + 1 - 1) 0 = cb := by rw [List.getD_eq_getElem?_getD, show a + 1 - 1 = a from by omega, hb]; rfl
    rw [ea, eb] at h5
    have h6 := h5.1.2
    rw [decide_eq_false (by omega), Bool.false_or] at h6
    exact h6
  · intro a b c ha hb
    obtain ⟨h5, h6⟩ := List.getElem?_eq_some_iff.1 ha
    obtain ⟨h7, h8⟩ := List.getElem?_eq_some_iff.1 hb
    exact (List.getElem_inj hnd).1 (h6.trans h8.symm)
  · intro c hc i hi
    obtain ⟨a, ha⟩ := List.getElem?_of_mem hc
    have h5 := h3 a (List.getElem?_eq_some_iff.1 ha).1
    have e : cs.getD a 0 = c := by rw [List.getD_eq_getElem?_getD, ha]; rfl
    rw [e] at h5
    exact h5.2 i hi
  · intro i j d oi oj hi hj hdi hdj
    exact nodup_filterMap (l := dstsOf ol) h4 (d := d) (by rw [dstsOf, List.getElem?_map, hi]; simp [hdi]) (by rw [dstsOf, List.getElem?_map, hj]; simp [hdj])
theorem Chain.all {cs : List Nat} (h : chainOk B (pre.map fun o => o.map (·.1)) cs k1 (dstsOf ol) = true) : ∀ (a b ca cb : Nat), cs[a]? = some ca → cs[b]? = some cb → b < a → (B.getD ca 0).testBit cb = true := by
  unfold chainOk at h
  simp only [Bool.and_eq_true, beq_iff_eq, decide_eq_true_eq, List.all_eq_true, List.mem_range, List.length_map] at h
  obtain ⟨⟨⟨h1, h2⟩, h3⟩, h4⟩ := h
  intro a b ca cb ha hb hab
  have h5 := h3 a (List.getElem?_eq_some_iff.1 ha).1
  have ea : cs.getD a 0 = ca := by rw [List.getD_eq_getElem?_getD, ha]; rfl
  have eb : cs.getD b 0 = cb := by rw [List.getD_eq_getElem?_getD, hb]; rfl
  rw [ea] at h5
  have := h5.1.2 b hab
  rwa [eb] at this
theorem Chain.of (he : edgesOk B ol 0 = true) (h : chainOk B (pre.map fun o => o.map (·.1)) cs k1 (dstsOf ol) = true) : Chain B ol pre cs k1 := by
  have hall := Chain.all h
  unfold chainOk at h
  simp only [Bool.and_eq_true, beq_iff_eq, decide_eq_true_eq, List.all_eq_true, List.mem_range, List.length_map] at h
  obtain ⟨⟨⟨h1, h2⟩, h3⟩, h4⟩ := h
  have hlen : pre.length = ol.length := by rw [h1]; simp [dstsOf]
  have hg : ∀ i, (pre.map fun o => o.map (·.1)).getD i none = match pre[i]? with | some (some p) => some p.1 | _ => none := by
    intro i
    rw [List.getD_eq_getElem?_getD, List.getElem?_map]
    cases pre[i]? with
    | none => rfl
    | some o => cases o <;> rfl
  refine ⟨hlen, ?_, ?_, ?_, fun a ca cb _ h1 h2 => hall _ _ _ _ h1 h2 (by omega), ?_, ?_, ?_⟩
  · intro i d u hi
    have hil : i < pre.length := (List.getElem?_eq_some_iff.1 hi).1
    have h5 := h2 i hil
    rw [hg, hi] at h5
    simp only [Bool.and_eq_true, Bool.not_eq_true', beq_iff_eq, List.all_eq_true] at h5
    obtain ⟨⟨h6, h7⟩, h8⟩ := h5
    refine ⟨by simpa using h6, ?_, fun c hc => by simpa using h8 c hc⟩
    obtain ⟨o, ho⟩ : ∃ o, ol[i]? = some o := ⟨_, List.getElem?_eq_getElem (by omega)⟩
    refine ⟨o, ho, ?_⟩
    rw [List.getD_eq_getElem?_getD, dstsOf, List.getElem?_map, ho] at h7
    simpa using h7
  · intro i hi
    have hil : i < pre.length := (List.getElem?_eq_some_iff.1 hi).1
    have h5 := h2 i hil
    rw [hg, hi] at h5
    simpa using h5
  · intro c hc
    obtain ⟨a, ha⟩ := List.getElem?_of_mem hc
    have h5 := h3 a (List.getElem?_eq_some_iff.1 ha).1
    have e : cs.getD a 0 = c := by rw [List.getD_eq_getElem?_getD, ha]; rfl
    rw [e] at h5
    rw [← hlen]; exact h5.1.1
  · intro a b c ha hb
    have ho : ∃ o, ol[c]? = some o := by
      have hcm := List.mem_of_getElem? ha
      obtain ⟨a', ha'⟩ := List.getElem?_of_mem hcm
      have h5 := h3 a' (List.getElem?_eq_some_iff.1 ha').1
      have e : cs.getD a' 0 = c := by rw [List.getD_eq_getElem?_getD, ha']; rfl
      rw [e] at h5
      exact ⟨_, List.getElem?_eq_getElem (by rw [← hlen]; exact h5.1.1)⟩
    obtain ⟨o, ho⟩ := ho
    have e4 := edgesOk_get he ho
    simp only [Nat.zero_add] at e4
    rcases Nat.lt_trichotomy a b with h5 | h5 | h5
    · have := (e4.2 c (hall b a c c hb ha h5)).1; omega
    · exact h5
    · have := (e4.2 c (hall a b c c ha hb h5)).1; omega
  · intro c hc i hi
    obtain ⟨a, ha⟩ := List.getElem?_of_mem hc
    have h5 := h3 a (List.getElem?_eq_some_iff.1 ha).1
    have e : cs.getD a 0 = c := by rw [List.getD_eq_getElem?_getD, ha]; rfl
    rw [e] at h5
    exact h5.2 i hi
  · intro i j d oi oj hi hj hdi hdj
    exact nodup_filterMap (l := dstsOf ol) h4 (d := d) (by rw [dstsOf, List.getElem?_map, hi]; simp [hdi]) (by rw [dstsOf, List.getElem?_map, hj]; simp [hdj])
/-- How far the listed ones are. -/
structure At (P : Program) (n : Nat) (Q : AEx → Sl → Hp → Prop) (H0 : Hp) (E : Ent) (B : List Nat) (ol : List Oper) (pre : List (Option (Nat × AV))) (cs k1 : List Nat) (l : List (Nat × AV)) (keep objs0 : List (Nat × Ob)) (f : Nat → Bool) (p : Nat) (cr : List (Nat × AV)) (objs : List (Nat × Ob)) (a : Act) (w : World) : Prop where
  down : Down B f
  ple : p ≤ cs.length
  chain : ∀ (k c : Nat), cs[k]? = some c → f c = decide (k < p)
  done1 : 0 < p → ∀ i ∈ k1, f i = true
  start : p = 0 → objs = objs0 ∧ cr = []
  dist : Dist H0 objs
  crk : ∀ (t : Nat) (u : AV), look cr t = some u → ∃ k c o, k < p ∧ cs[k]? = some c ∧ ol[c]? = some o ∧ o.dst = some t
  crd : ∀ (k c : Nat) (o : Oper) (d : Nat), k < p → cs[k]? = some c → ol[c]? = some o → o.dst = some d → ∃ u, look cr d = some u
  ch : CH P n ol Q H0 B pre l keep (cs.drop p) cr objs
  inv : Inv E n (lookC cr (lookB f (ofL l) pre 0)) (extH H0 objs) a w
theorem keys_nodup (hC : Chain B ol pre cs k1) : (keysOf pre).Nodup := by
  unfold keysOf
  have : ∀ (r : List (Option (Nat × AV))) (k : Nat), (∀ (j : Nat) (o : Option (Nat × AV)), r[j]? = some o → pre[k + j]? = some o) → (r.filterMap fun o => o.map (·.1)).Nodup := by
    intro r
    induction r with
    | nil => intro k _; simp
    | cons o r ih =>
      intro k hk
      have ih' := ih (k + 1) (fun j o' h => by have := hk (j + 1) o' (by simpa using h); rw [← this]; congr 1; omega)
      cases o with
      | none => simpa using ih'
      | some q =>
        rw [List.filterMap_cons_some (by rfl : (some q : Option (Nat × AV)).map (·.1) = some q.1), List.nodup_cons]
        refine ⟨fun hm => ?_, ih'⟩
        obtain ⟨o', ho', he⟩ := List.mem_filterMap.1 hm
        obtain ⟨j, hj⟩ := List.getElem?_of_mem ho'
        cases o' with
        | none => cases he
        | some q' =>
          have he' : q'.1 = q.1 := by simpa using he
          have e1 := hk 0 (some q) (by simp)
          have e2 := hk (j + 1) (some q') (by simpa using hj)
          obtain ⟨_, ⟨o1, g1, g2⟩, _⟩ := hC.quiet k q.1 q.2 (by simpa using e1)
          obtain ⟨_, ⟨o2, g3, g4⟩, _⟩ := hC.quiet (k + (j + 1)) q'.1 q'.2 (by simpa using e2)
          have := hC.nodup _ _ _ _ _ g1 g3 g2 (by rw [g4, he'])
          omega
  exact this pre 0 (fun j o h => by rw [Nat.zero_add]; exact h)
theorem at_min {f : Nat → Bool} {i : Nat} (hC : Chain B ol pre cs k1) (hd : Down B f) (hfi : f i = false) (hdeps : ∀ j, (B.getD i 0).testBit j = true → f j = true) (t : Nat) (v : AV) (hl : look (lmin B (dstsOf ol) pre cr l i) t = some v) : lookC cr (lookB f (ofL l) pre 0) t = v := by
  unfold lmin at hl
  rw [look_append] at hl
  unfold lookC
  cases hcr : look cr t with
  | some v' => rw [hcr] at hl; cases hl; rfl
  | none =>
    rw [hcr] at hl
    simp only at hl ⊢
    have hnd : (keysOf pre).Nodup := keys_nodup hC
    rw [look_append] at hl
    cases hdl : look (depsL (B.getD i 0) pre 0) t with
    | some v' =>
      rw [hdl] at hl
      cases hl
      obtain ⟨j, q1, q2⟩ := depsL_look hdl
      exact lookB_of hnd q1 (by rw [Nat.zero_add] at q2 ⊢; exact hdeps j q2)
    | none =>
      rw [hdl] at hl
      obtain ⟨q1, q2⟩ := keepL_look hl
      rw [lookB_old]
      · unfold ofL; rw [q1]; rfl
      · intro j d' u' q3 q4
        subst q4
        rw [Nat.zero_add]
        by_cases hji : j = i
        · rw [hji]; exact hfi
        · cases hb1 : (B.getD i 0).testBit j with
          | true =>
            exfalso
            obtain ⟨v', hv'⟩ : ∃ v, look (depsL (B.getD i 0) pre 0) d' = some v := depsL_some q3 (by rw [Nat.zero_add]; exact hb1)
            rw [hdl] at hv'; cases hv'
          | false =>
            cases hb2 : (B.getD j 0).testBit i with
            | true =>
              cases hfj : f j with
              | false => rfl
              | true =>
                have := hd j i hfj hb2
                rw [hfi] at this; cases this
            | false =>
              exfalso
              obtain ⟨_, ⟨o, g1, g2⟩, _⟩ := hC.quiet j d' u' q3
              have h6 : (dstsOf ol)[j]? = some (some d') := by rw [dstsOf, List.getElem?_map, g1]; simp [g2]
              have := loose_mem (B := B) (i := i) (k := 0) h6 (by rw [Nat.zero_add]; exact hji) (by rw [Nat.zero_add]; exact hb1) (by rw [Nat.zero_add]; exact hb2)
              rw [this] at q2; cases q2
def QAll (P : Program) (n : Nat) (ol : List Oper) (H0 : Hp) (objs : List (Nat × Ob)) (B : List Nat) (k1 : List Nat) (pre : List (Option (Nat × AV))) (l : List (Nat × AV)) (keep : List (Nat × Ob)) : List (Option (Nat × AV)) → Nat → Prop
  | [], _ => True
  | none :: r, i => QAll P n ol H0 objs B k1 pre l keep r (i + 1)
  | some p :: r, i => (p.1 < n ∧ ∃ o, ol[i]? = some o ∧ (if i ∈ k1 then QS P n ol.toArray H0 o (lmin B (dstsOf ol) pre [] l i) objs p.2 else ∀ objs, Has keep objs → QS P n ol.toArray H0 o (lmin B (dstsOf ol) pre [] l i) objs p.2)) ∧ QAll P n ol H0 objs B k1 pre l keep r (i + 1)
theorem QAll_get : ∀ {r : List (Option (Nat × AV))} {k : Nat}, QAll P n ol H0 objs B k1 pre l keep r k → ∀ {j d : Nat} {u : AV}, r[j]? = some (some (d, u)) → d < n ∧ ∃ o, ol[k + j]? = some o ∧ (if k + j ∈ k1 then QS P n ol.toArray H0 o (lmin B (dstsOf ol) pre [] l (k + j)) objs u else ∀ objs, Has keep objs → QS P n ol.toArray H0 o (lmin B (dstsOf ol) pre [] l (k + j)) objs u)
  | [], k, _, j, d, u, hj => by simp at hj
  | none :: r, k, h, 0, d, u, hj => by simp at hj
  | none :: r, k, h, j + 1, d, u, hj => by
    have := QAll_get (r := r) (k := k + 1) h (j := j) (by simpa using hj)
    rwa [show k + 1 + j = k + (j + 1) by omega] at this
  | some p :: r, k, h, 0, d, u, hj => by simp at hj; subst hj; exact h.1
  | some p :: r, k, h, j + 1, d, u, hj => by
    have := QAll_get (r := r) (k := k + 1) h.2 (j := j) (by simpa using hj)
    rwa [show k + 1 + j = k + (j + 1) by omega] at this
theorem at_min0 {f : Nat → Bool} {p i d : Nat} {u : AV} (hC : Chain B ol pre cs k1) (hd : Down B f) (hi : pre[i]? = some (some (d, u))) (hchain : ∀ (k c : Nat), cs[k]? = some c → f c = decide (k < p))
    (hcrk : ∀ (t : Nat) (u : AV), look cr t = some u → ∃ k c o, k < p ∧ cs[k]? = some c ∧ ol[c]? = some o ∧ o.dst = some t)
    (hfi : f i = false) (hdeps : ∀ j, (B.getD i 0).testBit j = true → f j = true) (t : Nat) (v : AV) (hl : look (lmin B (dstsOf ol) pre [] l i) t = some v) : lookC cr (lookB f (ofL l) pre 0) t = v := by
  have h1 := at_min (cr := []) hC hd hfi hdeps t v hl
  have h2 : look cr t = none := by
    cases hcr : look cr t with
    | none => rfl
    | some v' =>
      exfalso
      obtain ⟨k, c, o, hk, hc, ho, hdst⟩ := hcrk t v' hcr
      have hfc : f c = true := by rw [hchain k c hc]; simpa using hk
      unfold lmin at hl
      rw [List.nil_append, look_append] at hl
      obtain ⟨hni, _, hnb⟩ := hC.quiet i d u hi
      have hcm := List.mem_of_getElem? hc
      cases hdl : look (depsL (B.getD i 0) pre 0) t with
      | some v'' =>
        obtain ⟨j, q1, q2⟩ := depsL_look hdl
        obtain ⟨hnj, ⟨oj, g1, g2⟩, _⟩ := hC.quiet j t v'' q1
        have := hC.nodup _ _ _ _ _ g1 ho g2 hdst
        subst this
        exact hnj hcm
      | none =>
        rw [hdl] at hl
        obtain ⟨q1, q2⟩ := keepL_look hl
        have h6 : (dstsOf ol)[c]? = some (some t) := by rw [dstsOf, List.getElem?_map, ho]; simp [hdst]
        have hci : c ≠ i := fun e => hni (e ▸ hcm)
        have hbc : (B.getD c 0).testBit i = false := by
          cases h : (B.getD c 0).testBit i with
          | false => rfl
          | true => have := hd c i hfc h; rw [hfi] at this; cases this
        have := loose_mem (B := B) (i := i) (k := 0) h6 (by rw [Nat.zero_add]; exact hci) (by rw [Nat.zero_add]; exact hnb c hcm) (by rw [Nat.zero_add]; exact hbc)
        rw [this] at q2; cases q2
  unfold lookC at h1 ⊢
  rw [h2]
  exact h1
theorem inv_min {T : Sl} {a : Act} {w : World} {ρ : Rho} {H : Hp} {ls : List (Nat × AV)} (r3 : ∀ t, Rep (okOf ρ H) ρ w (T t) (a.tmps.getD t undef)) (h : ∀ (t : Nat) (v : AV), look ls t = some v → T t = v) : ∀ t, Rep (okOf ρ H) ρ w (ofL ls t) (a.tmps.getD t undef) := by
  intro t
  unfold ofL
  cases hl : look ls t with
  | none => exact .any _
  | some v => have := r3 t; rw [h t v hl] at this; exact this
/-- A region whose order is open: quiet operations, wherever they come; the chain in its order. -/
theorem UW.draws {P : Program} {rid : Nat} (hm : P.follows .mixedOrders = true) (B : List Nat) (pre : List (Option (Nat × AV))) (fam : List (List Nat)) (cs0 k1 : List Nat) (h0 : cs0 ∈ fam) (he : edgesOk B ol 0 = true) (hCf : ∀ cs ∈ fam, Chain B ol pre cs k1)
    (hhead : ∀ cs ∈ fam, ∀ c ∈ cs, (∃ cs' ∈ fam, cs'[0]? = some c) ∨ ∃ c' ∈ cs, (B.getD c 0).testBit c' = true)
    (hq : QAll P n ol H0 objs B k1 pre l keep pre 0) (hk : ∀ cs ∈ fam, CH P n ol Q H0 B pre l keep cs [] objs) : UW P n Q H0 (.region rid ol.toArray true) l objs := by
  intro hd0 E a0 w0 hi0
  refine wpIn_region_any hm ?_
  have key : ∀ (fuel : Nat) (listed : Array Bool) (p : Nat) (cs : List Nat) (hcs : cs ∈ fam) (cr : List (Nat × AV)) (objs' : List (Nat × Ob)) (a : Act) (w : World), listed.size = ol.length → ol.length ≤ fuel + ((List.range ol.length).filter (fOf listed)).length →
      At P n Q H0 E B ol pre cs k1 l keep objs (fOf listed) p cr objs' a w → wpAnyIn (fen Rd.r) 3 P .any ol.toArray (lift E n Q) fuel listed a w := by
    intro fuel
    -- all is listed
    have final : ∀ (listed : Array Bool) (p : Nat) (cs : List Nat) (hcs : cs ∈ fam) (cr : List (Nat × AV)) (objs' : List (Nat × Ob)) (a : Act) (w : World), (∀ j, j < ol.length → fOf listed j = true) → At P n Q H0 E B ol pre cs k1 l keep objs (fOf listed) p cr objs' a w → lift E n Q .normal a w := by
      intro listed p cs hcs cr objs' a w hall h
      have hC := hCf cs hcs
      have hp : p = cs.length := by
        by_cases hpl : p = cs.length
        · exact hpl
        · exfalso
          have hlt : p < cs.length := by have := h.ple; omega
          have e := List.getElem?_eq_getElem hlt
          have h1 := h.chain p _ e
          rw [hall _ (hC.lt _ (List.mem_of_getElem? e))] at h1
          simp at h1
      have hc := h.ch
      rw [hp, List.drop_length] at hc
      replace hc := hc.2
      obtain ⟨ρ, r1, r2, r3⟩ := h.inv.rel
      refine ⟨_, _, ⟨h.inv.size, h.inv.defers, ρ, r1, r2, inv_min r3 ?_⟩, hc h.dist⟩
      intro t v hl
      rw [look_append] at hl
      unfold lookC
      cases hcr : look cr t with
      | some v' => rw [hcr] at hl; cases hl; rfl
      | none =>
        rw [hcr] at hl
        simp only at hl ⊢
        rw [look_append] at hl
        have hnd : (keysOf pre).Nodup := keys_nodup hC
        cases hpl : look (pre.filterMap id).reverse t with
        | some v' =>
          rw [hpl] at hl
          cases hl
          have hm := look_mem hpl
          rw [List.mem_reverse] at hm
          obtain ⟨o, ho, he⟩ := List.mem_filterMap.1 hm
          obtain ⟨j, hj⟩ := List.getElem?_of_mem ho
          simp only [id] at he
          subst he
          exact lookB_of hnd hj (by rw [Nat.zero_add]; exact hall j (by rw [← hC.len]; exact (List.getElem?_eq_some_iff.1 hj).1))
        | none =>
          rw [hpl] at hl
          rw [lookB_old]
          · simp only at hl; unfold ofL; rw [hl]; rfl
          · intro j d u hj hdt
            exfalso
            subst hdt
            have hmem : (d, u) ∈ (pre.filterMap id).reverse := by
              rw [List.mem_reverse]
              exact List.mem_filterMap.2 ⟨some (d, u), List.mem_of_getElem? hj, rfl⟩
            have hkn : (((pre.filterMap id).reverse).map (·.1)).Nodup := by
              rw [List.map_reverse]
              refine (List.reverse_perm _).nodup_iff.2 ?_
              have : (pre.filterMap id).map (·.1) = keysOf pre := by unfold keysOf; rw [List.map_filterMap]; rfl
              rw [this]; exact hnd
            rw [look_nodup hkn hmem] at hpl
            cases hpl
    induction fuel with
    | zero =>
      intro listed p cs hcs cr objs' a w hs hf h
      have hfl := List.length_filter_le (fOf listed) (List.range ol.length)
      rw [List.length_range] at hfl
      have hall : ∀ j, j < ol.length → fOf listed j = true := by
        intro j hj
        have h1 : ((List.range ol.length).filter (fOf listed)).length = (List.range ol.length).length := by rw [List.length_range]; omega
        exact List.length_filter_eq_length_iff.1 h1 j (by simpa using hj)
      refine ⟨?_, final listed p cs hcs cr objs' a w hall h⟩
      cases hr : Region.ready .any ol.toArray listed with
      | nil => rfl
      | cons j r =>
        have := ready_mem (by rw [hr]; exact List.mem_cons_self : j ∈ Region.ready .any ol.toArray listed)
        have hj : j < ol.length := by simpa using this.1
        rw [getD_true (by omega), hall j hj] at this
        simp at this
    | succ fuel ih =>
      intro listed p cs hcs cr objs' a w hs hf h
      have hC := hCf cs hcs
      by_cases hall : ∀ j, j < ol.length → fOf listed j = true
      · refine ⟨fun _ => final listed p cs hcs cr objs' a w hall h, fun j hj => ?_⟩
        have := ready_mem hj
        have hjl : j < ol.length := by simpa using this.1
        rw [getD_true (by omega), hall j hjl] at this
        simp at this
      · have hex : ∃ j, j < ol.length ∧ fOf listed j = false := by
          simp only [Classical.not_forall] at hall
          obtain ⟨j, hj, h⟩ := hall
          exact ⟨j, hj, by simpa using h⟩
        have hleast : ∃ j, j < ol.length ∧ fOf listed j = false ∧ ∀ k, k < j → fOf listed k = true := by
          obtain ⟨j, h1, h2⟩ := hex
          induction j using Nat.strongRecOn with
          | _ j ihj =>
            by_cases hk2 : ∀ k, k < j → fOf listed k = true
            · exact ⟨j, h1, h2, hk2⟩
            · simp only [Classical.not_forall] at hk2
              obtain ⟨k, hk3, h4⟩ := hk2
              exact ihj k hk3 (by omega) (by simpa using h4)
        obtain ⟨j0, hj0, hj1, hj2⟩ := hleast
        have hin : j0 ∈ Region.ready .any ol.toArray listed := by
          obtain ⟨o, ho⟩ : ∃ o, ol[j0]? = some o := ⟨_, List.getElem?_eq_getElem hj0⟩
          refine ready_of (o := o) (by simpa using hj0) ?_ (by simpa using ho) (fun e he1 he2 => ?_)
          · rw [getD_true (by omega)]; exact hj1
          · have h5 := edgesOk_get he ho
            simp only [Nat.zero_add] at h5
            exact hj2 _ (h5.1 e he1 he2)
        refine ⟨fun hnil => (by rw [hnil] at hin; cases hin), fun i hir => ?_⟩
        obtain ⟨h1, h2, o, ho, h3⟩ := ready_mem hir
        have hil : i < ol.length := by simpa using h1
        rw [getD_true (by omega)] at h2
        have ho' : ol[i]? = some o := by simpa using ho
        have hdeps : ∀ j, (B.getD i 0).testBit j = true → fOf listed j = true := by
          intro j hj
          have h5 := edgesOk_get he ho'
          simp only [Nat.zero_add] at h5
          obtain ⟨_, e, e1, e2, e3⟩ := h5.2 j hj
          have h6 : fOf listed e.on = true := h3 e e1 e2
          rcases e3 with e3 | e3
          · rw [← e3]; exact h6
          · exact h.down _ _ h6 e3
        rw [wpOpIn_get ho]
        obtain ⟨ρ, r1, r2, r3⟩ := h.inv.rel
        have hset : fOf (listed.setIfInBounds i true) = fun j => if j = i then true else fOf listed j := by funext j; exact fOf_set (by omega) j
        have hcount : ol.length ≤ fuel + ((List.range ol.length).filter (fOf (listed.setIfInBounds i true))).length := by
          have e1 : fOf (listed.setIfInBounds i true) = fun k => (k == i) || fOf listed k := by
            rw [hset]
            funext k
            by_cases hk : k = i
            · simp [hk]
            · simp [hk]
          rw [e1, filter_one h2 hil]
          omega
        have hdown : Down B (fOf (listed.setIfInBounds i true)) := by
          rw [hset]
          intro i' j' p1 p2
          simp only at p1 ⊢
          split
          · rfl
          · split at p1
            · rename_i e; subst e; exact hdeps j' p2
            · exact h.down i' j' p1 p2
        have hpi : ∃ x, pre[i]? = some x := ⟨_, List.getElem?_eq_getElem (by rw [hC.len]; exact hil)⟩
        obtain ⟨x, hx⟩ := hpi
        cases x with
        | some du =>
          obtain ⟨d, u⟩ := du
          obtain ⟨hni, ⟨o2, g1, g2⟩, hnb⟩ := hC.quiet i d u hx
          rw [ho'] at g1
          cases g1
          obtain ⟨g3, o3, g4, g5⟩ := QAll_get hq hx
          rw [Nat.zero_add] at g4 g5
          rw [ho'] at g4
          cases g4
          have hqs : QS P n ol.toArray H0 o (lmin B (dstsOf ol) pre [] l i) objs' u := by
            split at g5
            · rename_i hi1
              have hp0 : p = 0 := by
                by_cases hp0 : p = 0
                · exact hp0
                · have := h.done1 (by omega) i hi1
                  rw [h2] at this; cases this
              rw [(h.start hp0).1]; exact g5
            · exact g5 objs' h.ch.has
          have hmin := inv_min r3 (at_min0 hC h.down hx h.chain h.crk h2 hdeps)
          have hnext : ∀ x w' ρ', HRel ρ' (extH H0 objs') w' → Ext ρ (extH H0 objs') w ρ' (extH H0 objs') w' → Rep (okOf ρ' (extH H0 objs')) ρ' w' u x → wpAnyIn (fen Rd.r) 3 P .any ol.toArray (lift E n Q) fuel (listed.setIfInBounds i true) (a.put o.dst x) w' := by
            intro x w' ρ' q1 q2 q3
            refine ih _ p cs hcs cr objs' _ _ (by simpa using hs) hcount ⟨hdown, h.ple, fun k c hkc => ?_, fun hp j hj => ?_, h.start, h.dist, h.crk, h.crd, h.ch, ⟨?_, ?_, ρ', q1, r2.trans q2, fun t => ?_⟩⟩
            · rw [hset]
              have : c ≠ i := fun e => hni (e ▸ List.mem_of_getElem? hkc)
              simp only [this, if_false]
              exact h.chain k c hkc
            · rw [hset]
              simp only
              split
              · rfl
              · exact h.done1 hp j hj
            · simp only [Act.put]; split <;> simp [h.inv.size]
            · rw [put_defers]; exact h.inv.defers.step r1 q2
            · have h7 := rep_put (n := n) h.inv.size (fun t => q2.rep (r3 t)) o.dst q3 t
              rw [g2] at h7 ⊢
              simp only [putD, g3, if_true, upd] at h7
              have hlk : lookC cr (lookB (fOf (listed.setIfInBounds i true)) (ofL l) pre 0) t = if t = d then u else lookC cr (lookB (fOf listed) (ofL l) pre 0) t := by
                have hcrn : look cr d = none := by
                  cases hcr : look cr d with
                  | none => rfl
                  | some v' =>
                    obtain ⟨k, c, oc, _, hc1, hc2, hc3⟩ := h.crk d v' hcr
                    have := hC.nodup _ _ _ _ _ ho' hc2 g2 hc3
                    subst this
                    exact absurd (List.mem_of_getElem? hc1) hni
                unfold lookC
                by_cases ht : t = d
                · subst ht
                  rw [hcrn, if_pos rfl]
                  exact lookB_of (keys_nodup hC) hx (by rw [Nat.zero_add, hset]; simp)
                · rw [if_neg ht]
                  split
                  · rfl
                  · refine lookB_congr (fun j d' u' e1 e2 => ?_) rfl
                    rw [Nat.zero_add, hset]
                    simp only
                    split
                    · rename_i hji
                      subst hji
                      rw [hx] at e1
                      cases e1
                      exact absurd e2.symm ht
                    · rfl
              rw [hlk]
              by_cases ht : t = d
              · rw [if_pos ht] at h7 ⊢; exact h7
              · rw [if_neg ht] at h7 ⊢; exact h7
          have hdo := hqs h.dist a w ρ h.inv.size rfl r1 hmin (fun a' w' => a'.defers = a.defers ∧ wpAnyIn (fen Rd.r) 3 P .any ol.toArray (lift E n Q) fuel (listed.setIfInBounds i true) a' w') (lift E n Q) (fun x w' ρ' u' H' q1 q2 q3 ⟨q4, q5⟩ => by
            subst q4 q5
            exact ⟨put_defers _ _ _, hnext x w' ρ' q1 q2 q3⟩)
          split
          · rename_i hw
            rw [if_pos hw] at hdo
            exact wp_fen hdo (fun c a w h => h)
          · rename_i hw
            rw [if_neg hw] at hdo
            exact ⟨fun _ _ => trivial, hdo.2⟩
        | none =>
          have hsw : ∃ cs' ∈ fam, At P n Q H0 E B ol pre cs' k1 l keep objs (fOf listed) p cr objs' a w ∧ cs'[p]? = some i := by
            have hics := hC.rest i hx
            obtain ⟨k, hkc⟩ := List.getElem?_of_mem hics
            have e1 := h.chain k i hkc
            rw [h2] at e1
            have hge : p ≤ k := by simpa using e1.symm
            by_cases hkp : k = p
            · exact ⟨cs, hcs, h, by rw [← hkp]; exact hkc⟩
            · by_cases hp0 : p = 0
              · rcases hhead cs hcs i hics with ⟨cs', hcs', hh⟩ | ⟨c', hc', hb⟩
                · obtain ⟨s1, s2⟩ := h.start hp0
                  subst hp0 s1 s2
                  have hC' := hCf cs' hcs'
                  refine ⟨cs', hcs', ⟨h.down, Nat.zero_le _, fun k' c hkc' => ?_, fun h => absurd h (by omega), fun _ => ⟨rfl, rfl⟩, h.dist, fun t u hl => absurd hl (by simp [look]), fun k' c o d hk' => absurd hk' (by omega), hk cs' hcs', h.inv⟩, hh⟩
                  have hcl := hC'.lt c (List.mem_of_getElem? hkc')
                  obtain ⟨y, hy⟩ : ∃ y, pre[c]? = some y := ⟨_, List.getElem?_eq_getElem (by rw [hC.len]; exact hcl)⟩
                  cases y with
                  | some du => exact absurd (List.mem_of_getElem? hkc') (hC'.quiet c du.1 du.2 hy).1
                  | none =>
                    obtain ⟨k2, hk2⟩ := List.getElem?_of_mem (hC.rest c hy)
                    rw [h.chain k2 c hk2]; simp
                · obtain ⟨k2, hk2⟩ := List.getElem?_of_mem hc'
                  have e4 := hdeps _ hb
                  rw [h.chain k2 _ hk2, hp0] at e4
                  simp at e4
              · exfalso
                have hk1 : k - 1 < cs.length := by have := (List.getElem?_eq_some_iff.1 hkc).1; omega
                have e2 := List.getElem?_eq_getElem hk1
                have e3 := hC.order (k - 1) i _ (by omega) (by rw [show k - 1 + 1 = k from by omega]; exact hkc) e2
                have e4 := hdeps _ e3
                rw [h.chain (k - 1) _ e2] at e4
                have : k - 1 < p := by simpa using e4
                omega
          obtain ⟨cs', hcs', h', hkc⟩ := hsw
          clear h hC
          have h := h'
          clear h'
          have hC := hCf cs' hcs'
          have hics := List.mem_of_getElem? hkc
          generalize hkp : p = k at *
          have hdrop : cs'.drop k = i :: cs'.drop (k + 1) := by
            have hlt := (List.getElem?_eq_some_iff.1 hkc).1
            rw [List.drop_eq_getElem_cons hlt]; congr 1; exact (List.getElem?_eq_some_iff.1 hkc).2
          have hch' := h.ch
          rw [hdrop] at hch'
          obtain ⟨_, o2, g1, g2, g3⟩ := hch'
          rw [ho'] at g1
          cases g1
          have hmin := inv_min r3 (at_min hC h.down h2 hdeps)
          have hnext : ∀ x w' ρ' u H', HRel ρ' H' w' → Ext ρ (extH H0 objs') w ρ' H' w' → Rep (okOf ρ' H') ρ' w' u x → (∃ objs2, H' = extH H0 objs2 ∧ Dist H0 objs2 ∧ CH P n ol Q H0 B pre l keep (cs'.drop (k + 1)) (match o.dst with | some d => (d, u) :: cr | none => cr) objs2) → wpAnyIn (fen Rd.r) 3 P .any ol.toArray (lift E n Q) fuel (listed.setIfInBounds i true) (a.put o.dst x) w' := by
            rintro x w' ρ' u H' q1 q2 q3 ⟨objs2, rfl, q5, q6⟩
            have hfresh : ∀ d, o.dst = some d → ∀ (j d' : Nat) (u' : AV), pre[j]? = some (some (d', u')) → d' ≠ d := by
              intro d hd j d' u' hj e
              subst e
              obtain ⟨hnj, ⟨oj, e1, e2⟩, _⟩ := hC.quiet j d' u' hj
              have := hC.nodup _ _ _ _ _ e1 ho' e2 hd
              subst this
              exact hnj hics
            refine ih _ (k + 1) cs' hcs' (match o.dst with | some d => (d, u) :: cr | none => cr) objs2 _ _ (by simpa using hs) hcount ⟨hdown, ?_, fun k' c hkc' => ?_, fun _ j hj => ?_, fun hp => by omega, q5, fun t v hl => ?_, fun k' c oc d' hk' hc1 hc2 hc3 => ?_, q6, ⟨?_, ?_, ρ', q1, r2.trans q2, fun t => ?_⟩⟩
            · have := (List.getElem?_eq_some_iff.1 hkc).1; omega
            · rw [hset]
              simp only
              by_cases hci : c = i
              · subst hci
                rw [if_pos rfl]
                have : k' = k := hC.inj _ _ _ hkc' hkc
                subst this; simp
              · rw [if_neg hci, h.chain k' c hkc']
                have : k' ≠ k := fun e => hci (by rw [e, hkc] at hkc'; exact (Option.some.inj hkc').symm)
                have : (k' < k) = (k' < k + 1) := by apply propext; omega
                simp [this]
            · rw [hset]
              simp only
              split
              · rfl
              · exact hdeps j (hC.first i hics j hj)
            · cases hod : o.dst with
              | none =>
                rw [hod] at hl
                obtain ⟨k', c, oc, e1, e2, e3, e4⟩ := h.crk t v hl
                exact ⟨k', c, oc, by omega, e2, e3, e4⟩
              | some d =>
                rw [hod] at hl
                have hl' : (if t = d then some u else look cr t) = some v := hl
                split at hl'
                · rename_i ht; subst ht; exact ⟨k, i, o, by omega, hkc, ho', hod⟩
                · obtain ⟨k', c, oc, e1, e2, e3, e4⟩ := h.crk t v hl'
                  exact ⟨k', c, oc, by omega, e2, e3, e4⟩
            · by_cases hkk : k' = k
              · subst hkk
                rw [hkc] at hc1
                cases hc1
                rw [ho'] at hc2
                cases hc2
                rw [hc3]
                exact ⟨u, by simp [look]⟩
              · obtain ⟨v, hv⟩ := h.crd k' c oc d' (by omega) hc1 hc2 hc3
                cases hod : o.dst with
                | none => exact ⟨v, hv⟩
                | some d =>
                  show ∃ u', (if d' = d then some u else look cr d') = some u'
                  split
                  · exact ⟨_, rfl⟩
                  · exact ⟨v, hv⟩
            · simp only [Act.put]; split <;> simp [h.inv.size]
            · rw [put_defers]; exact h.inv.defers.step r1 q2
            · have h7 := rep_put (n := n) h.inv.size (fun t => q2.rep (r3 t)) o.dst q3 t
              have hold : lookB (fOf (listed.setIfInBounds i true)) (ofL l) pre 0 t = lookB (fOf listed) (ofL l) pre 0 t := by
                refine lookB_congr (fun j d' u' e1 e2 => ?_) rfl
                rw [Nat.zero_add, hset]
                simp only
                split
                · rename_i hji
                  subst hji
                  rw [hx] at e1
                  cases e1
                · rfl
              cases hod : o.dst with
              | none =>
                rw [hod] at h7
                simp only [putD] at h7
                unfold lookC at h7 ⊢
                simp only [hod]
                rw [hold]
                exact h7
              | some d =>
                rw [hod] at h7
                simp only [putD, g2 d hod, if_true, upd] at h7
                unfold lookC at h7 ⊢
                simp only [hod, look]
                by_cases ht : t = d
                · rw [if_pos ht] at h7 ⊢; exact h7
                · rw [if_neg ht] at h7 ⊢
                  rw [hold]; exact h7
          have hdo := g3 h.dist a w ρ h.inv.size rfl r1 hmin (fun a' w' => a'.defers = a.defers ∧ wpAnyIn (fen Rd.r) 3 P .any ol.toArray (lift E n Q) fuel (listed.setIfInBounds i true) a' w') (lift E n Q) (fun x w' ρ' u' H' q1 q2 q3 q4 => ⟨put_defers _ _ _, hnext x w' ρ' u' H' q1 q2 q3 q4⟩)
          split
          · rename_i hw
            rw [if_pos hw] at hdo
            exact wp_fen hdo (fun c a w h => h)
          · rename_i hw
            rw [if_neg hw] at hdo
            exact ⟨fun _ _ => trivial, hdo.2⟩
  have hnone : ∀ i, fOf (Array.replicate ol.toArray.size false) i = false := by
    intro i
    simp [fOf, Array.getD]
  suffices hi1 : Inv E n (lookC [] (lookB (fOf (Array.replicate ol.toArray.size false)) (ofL l) pre 0)) (extH H0 objs) a0 { w0 with drawn := w0.drawn + 1 } by
    exact key _ _ 0 cs0 h0 [] objs _ _ (by simp) (by simp) ⟨fun i j h => absurd h (by rw [hnone]; simp), Nat.zero_le _, fun k c _ => (hnone c).trans (by simp), fun h => absurd h (by omega), fun _ => ⟨rfl, rfl⟩, hd0, fun t u h => absurd h (by simp [look]), fun k c o d h => absurd h (by omega), hk cs0 h0, hi1⟩
  obtain ⟨ρ, r1, r2, r3⟩ := hi0.rel
  have hE : Ext ρ (extH H0 objs) w0 ρ (extH H0 objs) { w0 with drawn := w0.drawn + 1 } := ⟨rfl, rfl, rfl, Nat.le_refl _, fun _ _ _ => rfl, fun _ h => .inl h, fun _ _ h => h⟩
  refine ⟨hi0.size, hi0.defers, ρ, ⟨fun id ob hob => ?_, r1.apart, r1.room, r1.lt⟩, r2.trans hE, fun t => ?_⟩
  · obtain ⟨v, e1, e2⟩ := r1.ob id ob hob
    exact ⟨v, e1, e2.ext hE (fun _ _ => rfl)⟩
  · have : lookC [] (lookB (fOf (Array.replicate ol.toArray.size false)) (ofL l) pre 0) t = ofL l t := by
      unfold lookC
      simp only [look]
      exact lookB_old (fun j d u _ _ => hnone _)
    rw [this]
    exact hE.rep (r3 t)
theorem UW.draw {P : Program} {rid : Nat} (hm : P.follows .mixedOrders = true) (B : List Nat) (pre : List (Option (Nat × AV))) (cs k1 : List Nat) (he : edgesOk B ol 0 = true) (hch : chainOk B (pre.map fun o => o.map (·.1)) cs k1 (dstsOf ol) = true)
    (hq : QAll P n ol H0 objs B k1 pre l keep pre 0) (hk : CH P n ol Q H0 B pre l keep cs [] objs) : UW P n Q H0 (.region rid ol.toArray true) l objs := by
  refine UW.draws hm B pre [cs] cs k1 (by simp) he (fun c hc => by rw [List.mem_singleton.1 hc]; exact Chain.of he hch) (fun c hc i hi => ?_) hq (fun c hc => by rw [List.mem_singleton.1 hc]; exact hk)
  cases List.mem_singleton.1 hc
  obtain ⟨a, ha⟩ := List.getElem?_of_mem hi
  cases a with
  | zero => exact .inl ⟨cs, by simp, ha⟩
  | succ a =>
    have hlt := (List.getElem?_eq_some_iff.1 ha).1
    have e0 := List.getElem?_eq_getElem (l := cs) (i := 0) (by omega)
    exact .inr ⟨_, List.mem_of_getElem? e0, Chain.all hch (a + 1) 0 i _ ha e0 (by omega)⟩
/-- Heads of chains: each of a chain is a head, or waits for one of its own. -/
def headOk (B : List Nat) (fam : List (List Nat)) : Bool := fam.all fun cs => cs.all fun c => (fam.any fun cs' => cs'[0]? == some c) || (cs.any fun c' => (B.getD c 0).testBit c')
theorem headOk_get {fam : List (List Nat)} (h : headOk B fam = true) : ∀ cs ∈ fam, ∀ c ∈ cs, (∃ cs' ∈ fam, cs'[0]? = some c) ∨ ∃ c' ∈ cs, (B.getD c 0).testBit c' = true := by
  intro cs hcs c hc
  unfold headOk at h
  have h1 := List.all_eq_true.1 (List.all_eq_true.1 h cs hcs) c hc
  rw [Bool.or_eq_true] at h1
  rcases h1 with h1 | h1
  · obtain ⟨cs', h2, h3⟩ := List.any_eq_true.1 h1
    exact .inl ⟨cs', h2, by simpa using h3⟩
  · obtain ⟨c', h2, h3⟩ := List.any_eq_true.1 h1
    exact .inr ⟨c', h2, h3⟩
end
end Go.Eng
