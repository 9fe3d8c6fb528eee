/- Maps from texts. · Samples: values out of choices. -/
import Derived.Test.YtgmfgmbgmjbdhaaGreatDoorKv31
import Derived.MapKept
import Derived.Carry
import Derived.Test.YtgmfgmbgmjbdhaaGreatDoorKv24
section
namespace Go.Eng
open Go Go.RowKit Go.MapKept
set_option linter.unusedVariables false
set_option linter.unusedSimpArgs false
set_option linter.unusedSectionVars false
variable [Rd]
/-- A map from texts: its elements' type. -/
def mapT (P : Program) (t : TypeId) : Option Nat :=
  match P.underlying t with
  | some (.map k e) => match P.underlying k with
    | some .string => some e
    | _ => none
  | _ => none
theorem mapT_some {P : Program} {t e : Nat} (h : mapT P t = some e) : ∃ k, P.underlying t = some (.map k e) ∧ P.underlying k = some .string := by
  unfold mapT at h
  split at h
  · rename_i k e' hu
    split at h
    · rename_i hk; cases h; exact ⟨k, hu, hk⟩
    · cases h
  · cases h
def lookE : List (ByteArray × AV) → ByteArray → Option AV
  | [], _ => none
  | (k, u) :: r, s => if s = k then some u else lookE r s
theorem findNow_es (s : ByteArray) : ∀ (es : List (ByteArray × AV)) (l : List MapEntry) (i : Nat), l.map (·.key) = es.map (fun e => Value.string e.1) →
    (lookE es s = none → Instr.findNow .string (.string s) l i = some none) ∧ (∀ u, lookE es s = some u → ∃ (j : Nat) (v : Value), Instr.findNow .string (.string s) l i = some (some (i + j, v)) ∧ (l.map (·.val))[j]? = some v ∧ (es.map (·.2))[j]? = some u)
  | [], [], i, _ => ⟨fun _ => rfl, fun u h => by cases h⟩
  | [], _ :: _, i, h => by cases h
  | _ :: _, [], i, h => by cases h
  | (k, u0) :: r, e :: l, i, h => by
    simp only [List.map_cons, List.cons.injEq] at h
    obtain ⟨h1, h2⟩ := h
    obtain ⟨a, b⟩ := findNow_es s r l (i + 1) h2
    by_cases hs : s = k
    · subst hs
      refine ⟨fun hh => by simp [lookE] at hh, fun u hh => ⟨0, e.val, ?_, rfl, ?_⟩⟩
      · have hss : (s == s) = true := (bytes_beq s s).2 rfl
        simp only [Instr.findNow, h1, Instr.sameNow, hss, Nat.add_zero]
      · simp [lookE] at hh
        simp [hh]
    · have hne : (s == k) = false := by
        cases hb : (s == k) with
        | false => rfl
        | true => exact absurd ((bytes_beq s k).1 hb) hs
      constructor
      · intro hh
        simp only [lookE, if_neg hs] at hh
        simp [Instr.findNow, h1, Instr.sameNow, hne, a hh]
      · intro u hh
        simp only [lookE, if_neg hs] at hh
        obtain ⟨j, v, h3, h4, h5⟩ := b u hh
        refine ⟨j + 1, v, ?_, by simpa using h4, by simpa using h5⟩
        simp [Instr.findNow, h1, Instr.sameNow, hne, h3]
        omega
section
variable {P : Program} {n : Nat} {ops : Array Oper} {T : Sl} {H H0 : Hp} {o : Oper} {K : AV → Hp → Prop} {l : List (Nat × AV)} {objs : List (Nat × Ob)} {x y z : Operand} {dst : Option Nat} {ty t : TypeId} {ps : String} {af : Array Edge} {u : AV} {es : List (ByteArray × AV)} {id : Nat} {s : ByteArray}
theorem Does.makeMap (hg : o.guard = none) (ho : o.op = .makeMap t none) (hk : ∀ id, H id = none → K (.mpr id) (set H id (some (.mp [])))) : Does P n ops o T H K := by
  refine Does.newOb hg fun a w ρ h hr => ?_
  have hex : (execOp a.eval o).run P w = .ok (.value (.map (some w.heap.size))) (w.alloc (.map #[] 0)) := by
    unfold execOp
    rw [ho]
    simp only [Option.map_none, Sem.run_bind, run_makeMap, Result.andThen_ok, Sem.run_pure]
  refine ⟨_, _, _, .mp [], hex, below_alloc _ _, ?_, fun ρ' H' e' => ⟨w.heap.size, #[], 0, rfl, heap_alloc_new w _, rfl, rfl, fun j u x h => by simp at h⟩, fun id hid => ⟨.mpr id, fun ok' ρ' h' => .mpr id _ h', hk id hid⟩⟩
  intro k hk; cases hk; rw [size_alloc]; simp
theorem map_at {ρ : Rho} {w : World} {v : Value} (h : HRel ρ H w) (h2 : H id = some (.mp es)) (hx : Rep (okOf ρ H) ρ w (.mpr id) v) :
    ∃ g l clk, v = .map (some g) ∧ ρ id = some (.map (some g)) ∧ w.heap[g]? = some (.map l clk) ∧ l.toList.map (·.key) = es.map (fun e => Value.string e.1) ∧ RepCells (okOf ρ H) ρ w (es.map (·.2)) (l.toList.map (·.val)) := by
  obtain ⟨v0, hv0, g, l, clk, rfl, hg, h3, h4⟩ := h.ob _ _ h2
  cases hx with
  | mpr _ g' hr => rw [hv0] at hr; cases hr; exact ⟨g, l, clk, rfl, hv0, hg, h3, h4⟩
theorem Does.insert {e : Nat} (hg : o.guard = none) (ho : o.op = .insert t x y z) (ht : mapT P t = some e) (hx : ev T x = .mpr id) (h2 : H id = some (.mp es)) (hy : ev T y = .v (.string s)) (hz : ev T z = u) (hc : cellAV u = true) (hn : lookE es s = none)
    (hk : K .any (set H id (some (.mp (es ++ [(s, u)]))))) : Does P n ops o T H K := by
  intro a w ρ h1 hd h3 h4 N Q hN
  rw [if_pos (by simp [Region.wanted, hg])]
  have hr := ev_rep h4
  have h5 := hr x
  rw [hx] at h5
  have h6 := rep_v (by have := hr y; rw [hy] at this; exact this)
  have h7 := hr z
  rw [hz] at h7
  obtain ⟨kt, hu, hkt⟩ := mapT_some ht
  obtain ⟨g, l, clk, hxx, hρ, hg0, hkeys, hvals⟩ := map_at h3 h2 h5
  have hkey : IsKey .string (.string s) := trivial
  have hf := (findNow_es s es l.toList 0 hkeys).1 hn
  have hex : (execOp a.eval o).run P w = .ok .skip { w with heap := w.heap.setIfInBounds g (.map (l.push ⟨.string s, a.eval z, clk⟩) (clk + 1)) } := by
    unfold execOp
    rw [ho]
    simp [hxx, h6, Instr.mapUpdate, run_underlying hu, Go.MapKept.run_getObj_map hg0, run_checkKey hkt hkey, run_findKey hkt hf, Go.MapKept.run_setObj_map _ hg0, Result.andThen]
  obtain ⟨hs1, hs2⟩ := heap_set (o' := .map (l.push ⟨.string s, a.eval z, clk⟩) (clk + 1)) hg0
  have hw := h3.write (w' := { w with heap := w.heap.setIfInBounds g (.map (l.push ⟨.string s, a.eval z, clk⟩) (clk + 1)) }) (.mp (es ++ [(s, u)])) h2 hρ rfl rfl rfl (by simp) (fun k _ hk => hs2 k (fun e => hk (by rw [e]; rfl))) (fun ρ' H' e' _ => ⟨g, _, _, rfl, hs1, by simp [hkeys], by
    have hv1 := e'.cells hvals
    have hz1 := e'.rep h7
    refine ⟨by simpa using hv1.1, fun j u' x' q1 q2 => ?_⟩
    simp only [List.map_append, List.map_cons, List.map_nil, Array.toList_push] at q1 q2
    by_cases hj : j < (es.map (·.2)).length
    · rw [List.getElem?_append_left hj] at q1
      rw [List.getElem?_append_left (by rw [← hv1.1]; exact hj)] at q2
      exact hv1.2 j u' x' q1 q2
    · rw [List.getElem?_append_right (by omega)] at q1
      rw [List.getElem?_append_right (by rw [← hv1.1]; omega), ← hv1.1] at q2
      generalize j - (es.map (·.2)).length = m at q1 q2
      cases m with
      | zero => simp at q1 q2; subst q1 q2; exact ⟨hz1, cellAV_one hz1 hc⟩
      | succ m => simp at q1⟩)
  unfold Oper.wp
  rw [hex]
  exact hN undef _ ρ .any _ hw.1 hw.2 (.any _) hk
theorem Does.lookup {e : Nat} {zv : Value} (hg : o.guard = none) (ho : o.op = .lookup t x y false) (ht : mapT P t = some e) (hz : (P.info? e).map (·.zero) = some (some zv)) (hx : ev T x = .mpr id) (h2 : H id = some (.mp es)) (hy : ev T y = .v (.string s)) (hu : (lookE es s).getD (.v zv) = u) (hk : K u H) : Does P n ops o T H K := by
  refine Does.val u hg (fun a w ρ hh hr => ?_) hk
  have h5 := hr x
  rw [hx] at h5
  have h6 := rep_v (by have := hr y; rw [hy] at this; exact this)
  obtain ⟨kt, hut, hkt⟩ := mapT_some ht
  obtain ⟨g, l, clk, hxx, hρ, hg0, hkeys, hvals⟩ := map_at hh h2 h5
  have hkey : IsKey .string (.string s) := trivial
  obtain ⟨f1, f2⟩ := findNow_es s es l.toList 0 hkeys
  obtain ⟨ie, hie, hze⟩ := Option.map_eq_some_iff.1 hz
  cases hl : lookE es s with
  | none =>
    refine ⟨zv, ?_, by rw [← hu, hl]; exact .v _⟩
    unfold execOp
    rw [ho]
    simp [hxx, h6, Instr.lookup, run_underlying hut, Go.MapKept.run_getObj_map hg0, run_checkKey hkt hkey, run_findKey hkt (f1 hl), zeroValue, typeInfo, hie, hze, Result.andThen]
  | some u' =>
    obtain ⟨j, v, q1, q2, q3⟩ := f2 u' hl
    refine ⟨v, ?_, by rw [← hu, hl]; exact (hvals.2 j _ _ q3 q2).1⟩
    unfold execOp
    rw [ho]
    simp [hxx, h6, Instr.lookup, run_underlying hut, Go.MapKept.run_getObj_map hg0, run_checkKey hkt hkey, run_findKey hkt q1, Result.andThen]
theorem D.mkm {K : AV → List (Nat × Ob) → Prop} (hk : ∀ id, K (.mpr id) ((id, .mp []) :: objs)) : DS P n ops H0 ⟨dst, .makeMap t none, ty, ps, af, none⟩ l objs K :=
  fun hdist => Does.makeMap rfl rfl fun id hid => ⟨(id, .mp []) :: objs, rfl, .cons hid hdist, hk id⟩
theorem D.ins {e : Nat} {objs' : List (Nat × Ob)} {K : AV → List (Nat × Ob) → Prop} (k : Nat) (ht : mapT P t = some e) (hx : evO l x = some (.mpr id)) (h2 : objs[k]? = some (id, .mp es)) (hy : evO l y = some (.v (.string s))) (hz : evO l z = some u) (hc : cellAV u = true) (hn : lookE es s = none) (hob : objs.set k (id, .mp (es ++ [(s, u)])) = objs') (hk : ∀ u, K u objs') : DS P n ops H0 ⟨dst, .insert t x y z, ty, ps, af, none⟩ l objs K := fun hdist => by
  subst hob
  exact Does.insert rfl rfl ht (ev_of hx) (hdist.at_ h2) (ev_of hy) (ev_of hz) hc hn ⟨_, (hdist.set_ _ h2).1, (hdist.set_ _ h2).2, hk _⟩
theorem Z.lkm {e : Nat} {zv : Value} (k : Nat) (ht : mapT P t = some e) (hz : (P.info? e).map (·.zero) = some (some zv)) (hx : evO l x = some (.mpr id)) (h2 : objs[k]? = some (id, .mp es)) (hy : evO l y = some (.v (.string s))) (hu : (lookE es s).getD (.v zv) = u) : QS P n ops H0 ⟨dst, .lookup t x y false, ty, ps, af, none⟩ l objs u := fun hd => Does.lookup rfl rfl ht hz (ev_of hx) (hd.at_ h2) (ev_of hy) hu ⟨rfl, rfl⟩
end
end Go.Eng
end
section
namespace Go.Proofs.YtgmfgmbgmjbdhaaGreatDoor
open Go Go.RowKit Go.Eng
set_option linter.unusedSimpArgs false
set_option linter.unusedVariables false
set_option maxRecDepth 100000
def keyL : List ByteArray := [⟨#[97]⟩, ⟨#[98]⟩, ⟨#[109, 101, 109, 98, 101, 114, 115, 104, 105, 112]⟩, ⟨#[117, 115, 101, 114, 115]⟩, ⟨#[195, 169]⟩, ⟨#[101, 118, 101, 110, 116, 115]⟩, ⟨#[120]⟩, ⟨#[116, 121, 112, 101]⟩]
theorem keyL_le : ∀ s ∈ keyL, s.size ≤ 4000000 := by decide
def keyI (b1 : Int) (q : Nat) : Nat := ((b1.tdiv 4 + 3 * (q : Int)).tmod 8).toNat
/-- An object out of values. -/
def objF (b1 : Int) (kids : List V) : Nat → V
  | 0 => .mk 5 0 ⟨#[]⟩ [] []
  | q + 1 => withV (objF b1 kids q) (keyL.getD (keyI b1 q) ⟨#[]⟩) (kids.getD q zeroV)
def takeK (b1 : Int) (l : List V) : Nat := min (b1.tmod 4).toNat l.length
def kidsV (b1 : Int) (l : List V) : List V := l.drop (l.length - takeK b1 l)
/-- How many values stay, and the next one. -/
def swV (b0 b1 : Int) (t : ByteArray) (l : List V) : Nat × V :=
  if b0.tmod 12 = 0 then (l.length, .mk 1 (b1.tmod 2) ⟨#[]⟩ [] [])
  else if b0.tmod 12 = 1 ∨ b0.tmod 12 = 2 ∨ b0.tmod 12 = 3 then (l.length, numV (b1 - 100))
  else if b0.tmod 12 = 4 then (l.length, numV (9007199254740991 - b1.tmod 2))
  else if b0.tmod 12 = 5 ∨ b0.tmod 12 = 6 then (l.length, strV (if 0 ≤ chk t then ⟨#[122]⟩ else t))
  else if b0.tmod 12 = 7 then (l.length - takeK b1 l, .mk 4 0 ⟨#[]⟩ [] (kidsV b1 l))
  else if b0.tmod 12 = 8 ∨ b0.tmod 12 = 9 ∨ b0.tmod 12 = 10 then (l.length - takeK b1 l, objF b1 (kidsV b1 l) (kidsV b1 l).length)
  else (l.length, zeroV)
def stepV (c : List Int) (j : Nat) (l : List V) : List V :=
  l.take (swV (c.getD j 0) (c.getD (j + 1) 0) (textOf ((c.take (min c.length (j + 3))).drop j)) l).1 ++ [(swV (c.getD j 0) (c.getD (j + 1) 0) (textOf ((c.take (min c.length (j + 3))).drop j)) l).2]
def valL (c : List Int) : Nat → List V
  | 0 => []
  | n + 1 => stepV c (2 * n) (valL c n)
def valOf (c : List Int) : V := .mk 4 0 ⟨#[]⟩ [] (valL c (min (c.length / 2) 30))
theorem insAt_mem {α : Type} {l : List α} {i : Nat} {a b : α} (h : b ∈ insAt l i a) : b ∈ l ∨ b = a := by
  unfold insAt at h
  rcases List.mem_append.1 h with h | h
  · exact .inl (List.mem_of_mem_take h)
  · rcases List.mem_cons.1 h with h | h
    · exact .inr h
    · exact .inl (List.mem_of_mem_drop h)
theorem withV_keys {x : V} {key : ByteArray} {y : V} {s : ByteArray} (h : s ∈ (withV x key y).ks) : s ∈ (objV x).ks ∨ s = key := by
  unfold withV at h
  split at h
  · rw [vks] at h; exact .inl (List.mem_of_mem_take h)
  · rw [vks] at h
    rcases insAt_mem h with h | h
    · exact .inl (List.mem_of_mem_take h)
    · exact .inr h
theorem withV_vals {x : V} {key : ByteArray} {y v : V} (h : v ∈ (withV x key y).vs) : v ∈ (objV x).vs ∨ v = y := by
  unfold withV at h
  split at h
  · rw [vvs] at h
    rcases List.mem_or_eq_of_mem_set h with h | h
    · exact .inl (List.mem_of_mem_take h)
    · exact .inr h
  · rw [vvs] at h
    rcases insAt_mem h with h | h
    · exact .inl (List.mem_of_mem_take h)
    · exact .inr h
theorem withV_lens (x : V) (key : ByteArray) (y : V) : (withV x key y).ks.length ≤ (objV x).ks.length + 1 ∧ (withV x key y).vs.length ≤ (objV x).vs.length + 1 ∧ (withV x key y).k = 5 := by
  have hk : (objV x).k = 5 := by unfold objV; split <;> first | assumption | rfl
  have hc : (cutV (objV x)).ks.length ≤ (objV x).ks.length ∧ (cutV (objV x)).vs.length ≤ (objV x).vs.length := by simp only [cutV, vks, vvs, List.length_take]; omega
  have h1 := insAtPos_le (cutV (objV x)).ks key
  unfold withV
  split
  · simp only [vks, vvs, vk, List.length_set]; omega
  · simp only [vks, vvs, vk]
    rw [insAt_len _ _ _ h1, insAt_len _ _ _ (by rw [← cut_lens]; exact h1)]; omega
theorem Fits.of {x : V} (h1 : x.ks.length ≤ 1000000) (h2 : x.vs.length ≤ 1000000) (h : ∀ y ∈ x.vs, Fits y) : Fits x := by
  obtain ⟨k, n, t, ks, vs⟩ := x
  exact .mk k n t ks vs h1 h2 h
theorem objF_ok (b1 : Int) (kids : List V) (hk : ∀ x ∈ kids, Fits x) : ∀ q, (objF b1 kids q).k = 5 ∧ (objF b1 kids q).ks.length ≤ q ∧ (objF b1 kids q).vs.length ≤ q ∧ (∀ s ∈ (objF b1 kids q).ks, s.size ≤ 4000000) ∧ (∀ v ∈ (objF b1 kids q).vs, Fits v)
  | 0 => ⟨rfl, Nat.le_refl _, Nat.le_refl _, (by intro s h; cases h), (by intro v h; cases h)⟩
  | q + 1 => by
    obtain ⟨h0, h1, h2, h3, h4⟩ := objF_ok b1 kids hk q
    have e : objV (objF b1 kids q) = objF b1 kids q := by unfold objV; rw [if_pos h0]
    obtain ⟨w1, w2, w3⟩ := withV_lens (objF b1 kids q) (keyL.getD (keyI b1 q) ⟨#[]⟩) (kids.getD q zeroV)
    rw [e] at w1 w2
    refine ⟨w3, by show (withV _ _ _).ks.length ≤ _; omega, by show (withV _ _ _).vs.length ≤ _; omega, fun s hs => ?_, fun v hv => ?_⟩
    · rcases withV_keys hs with h | h
      · rw [e] at h; exact h3 s h
      · subst h
        by_cases hi : keyI b1 q < keyL.length
        · exact keyL_le _ (getD_mem hi)
        · simp only [List.getD, List.getElem?_eq_none (Nat.le_of_not_lt hi)]; decide
    · rcases withV_vals hv with h | h
      · rw [e] at h; exact h4 v h
      · subst h
        by_cases hi : q < kids.length
        · exact hk _ (getD_mem hi)
        · simp only [List.getD, List.getElem?_eq_none (Nat.le_of_not_lt hi)]; exact .mk _ _ _ _ _ (by decide) (by decide) (by simp)
theorem objF_fits (b1 : Int) (kids : List V) (hk : ∀ x ∈ kids, Fits x) (q : Nat) (hq : q ≤ 1000000) : Fits (objF b1 kids q) := by
  obtain ⟨_, h1, h2, _, h4⟩ := objF_ok b1 kids hk q
  exact Fits.of (by omega) (by omega) h4
theorem fits_zero : Fits zeroV := .mk _ _ _ _ _ (by decide) (by decide) (by simp)
theorem fits_leaf (k n : Int) (t : ByteArray) : Fits (.mk k n t [] []) := .mk _ _ _ _ _ (by simp) (by simp) (by simp)
theorem swV_fits (b0 b1 : Int) (t : ByteArray) (l : List V) (hl : l.length ≤ 1000) (h : ∀ x ∈ l, Fits x) : Fits (swV b0 b1 t l).2 ∧ (swV b0 b1 t l).1 ≤ l.length := by
  have hk : ∀ x ∈ kidsV b1 l, Fits x := fun x hx => h x (List.mem_of_mem_drop hx)
  have hkl : (kidsV b1 l).length ≤ l.length := by unfold kidsV; rw [List.length_drop]; omega
  unfold swV
  repeat' split
  · exact ⟨fits_leaf _ _ _, Nat.le_refl _⟩
  · exact ⟨fits_leaf _ _ _, Nat.le_refl _⟩
  · exact ⟨fits_leaf _ _ _, Nat.le_refl _⟩
  · exact ⟨fits_leaf _ _ _, Nat.le_refl _⟩
  · exact ⟨fits_leaf _ _ _, Nat.le_refl _⟩
  · exact ⟨.mk _ _ _ _ _ (by simp) (by omega) hk, Nat.sub_le _ _⟩
  · exact ⟨objF_fits _ _ hk _ (by omega), Nat.sub_le _ _⟩
  · exact ⟨fits_zero, Nat.le_refl _⟩
theorem valL_ok (c : List Int) : ∀ n, n ≤ 100 → (valL c n).length ≤ n ∧ ∀ x ∈ valL c n, Fits x
  | 0, _ => ⟨Nat.le_refl _, (by intro x h; cases h)⟩
  | n + 1, hn => by
    obtain ⟨h1, h2⟩ := valL_ok c n (by omega)
    have h3 := swV_fits (c.getD (2 * n) 0) (c.getD (2 * n + 1) 0) (textOf ((c.take (min c.length (2 * n + 3))).drop (2 * n))) (valL c n) (by omega) h2
    refine ⟨?_, fun x hx => ?_⟩
    · show (stepV c (2 * n) (valL c n)).length ≤ _
      unfold stepV
      rw [List.length_append, List.length_take]; simp only [List.length_singleton]; omega
    · rcases List.mem_append.1 hx with h | h
      · exact h2 x (List.mem_of_mem_take h)
      · rw [List.mem_singleton.1 h]; exact h3.1
end Go.Proofs.YtgmfgmbgmjbdhaaGreatDoor
end
