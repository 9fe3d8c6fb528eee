/- The engine: rows whose room is known: cap, parts up to it, zeros behind, copy, overlaps. -/
import Derived.Test.YtgmfgmbgmjbdhaaGreatDoorKx10
import Derived.Lib.AppendZerosOnto
import Derived.Lib.Overlaps
import Derived.Laws.Externs
set_option linter.unusedSimpArgs false
set_option linter.unusedVariables false
namespace Go.Eng
open Go Go.RowKit
set_option linter.unusedSectionVars false
variable [Rd]
section
variable {P : Program} {n : Nat} {T : Sl} {H : Hp} {ops : Array Oper} {o : Oper} {K : AV → Hp → Prop}
theorem run_op_cap {a : Act} {w w' : World} {x : Operand} {t : TypeId} {v' : Value} (ho : o.op = .call { callee := .builtin .cap, args := #[x], argTypes := #[t] })
    (h : (Builtin.cap_ #[t] o.type #[a.eval x]).run P w = .ok v' w') : (execOp a.eval o).run P w = .ok (.value v') w' := by
  unfold execOp
  rw [ho]
  simp only [resolve, List.map_toArray, List.map_cons, List.map_nil, Sem.run_bind, Sem.run_pure, Result.andThen_ok, invoke, builtin, h]
theorem run_op_append2 {a : Act} {w w' : World} {x y : Operand} {t t' : TypeId} {v' : Value} (ho : o.op = .call { callee := .builtin .append, args := #[x, y], argTypes := #[t, t'] })
    (h : (Builtin.append_ #[t, t'] o.type #[a.eval x, a.eval y]).run P w = .ok v' w') : (execOp a.eval o).run P w = .ok (.value v') w' := by
  unfold execOp
  rw [ho]
  simp only [resolve, List.map_toArray, List.map_cons, List.map_nil, Sem.run_bind, Sem.run_pure, Result.andThen_ok, invoke, builtin, h]
theorem run_op_copy {a : Act} {w w' : World} {x y : Operand} {t t' : TypeId} {v' : Value} (ho : o.op = .call { callee := .builtin .copy, args := #[x, y], argTypes := #[t, t'] })
    (h : (Builtin.copy_ #[t, t'] o.type #[a.eval x, a.eval y]).run P w = .ok v' w') : (execOp a.eval o).run P w = .ok (.value v') w' := by
  unfold execOp
  rw [ho]
  simp only [resolve, List.map_toArray, List.map_cons, List.map_nil, Sem.run_bind, Sem.run_pure, Result.andThen_ok, invoke, builtin, h]
/-- A row that is not nil: where it lies. -/
theorem row_at {ρ : Rho} {w : World} {id off len e sz : Nat} {rows : List (List AV)} {x : Value} (h : HRel ρ H w) (h2 : H id = some (.row e sz rows)) (hx : Rep (okOf ρ H) ρ w (.own id off len sz) x) (hl : 0 < len) :
    ∃ g cap cur inner, ρ id = some (.slice (some ⟨g, 0, none⟩) rows.length cap) ∧ x = .slice (some ⟨g, off * sz, none⟩) len (cap - off) ∧ off + len ≤ cap ∧ 0 < sz ∧ w.heap[g]? = some (.cells cur e (0, 0)) ∧ rows.length ≤ cap ∧ cap ≤ maxLen ∧ cur.size = cap * sz ∧ cur.toList.take (rows.length * sz) = inner ∧ (∀ cs ∈ rows, cs.length = sz) ∧ RepCells (okOf ρ H) ρ w rows.flatten inner := by
  obtain ⟨v0, hv0, hz, inner, how, hrl, hc⟩ := h.ob _ _ h2
  cases hx with
  | own0 _ _ hv => omega
  | ownE _ _ _ g m c o' c' hv h0 _ => omega
  | own _ _ _ _ g m cap hv hle' hmax =>
    rw [hv0] at hv
    cases hv
    rcases how.2 with ⟨h6, _⟩ | ⟨g', cap', cur, h6, _, hg', h7, h8, h9, h10⟩
    · cases h6
    · cases h6
      exact ⟨_, _, _, _, hv0, rfl, hle', hz, hg', h7, h8, h9, h10, hrl, hc⟩
theorem rowc_at {ρ : Rho} {w : World} {id off len e sz c : Nat} {rows : List (List AV)} {x : Value} (h : HRel ρ H w) (h2 : H id = some (.rowc e sz rows c)) (hx : Rep (okOf ρ H) ρ w (.own id off len sz) x) (hl : 0 < len) :
    ∃ g n cur inner, ρ id = some (.slice (some ⟨g, 0, none⟩) n c) ∧ x = .slice (some ⟨g, off * sz, none⟩) len (c - off) ∧ off + len ≤ c ∧ 0 < sz ∧ w.heap[g]? = some (.cells cur e (0, 0)) ∧ rows.length ≤ c ∧ c ≤ maxLen ∧ cur.size = c * sz ∧ cur.toList.take (rows.length * sz) = inner ∧ (∀ cs ∈ rows, cs.length = sz) ∧ RepCells (okOf ρ H) ρ w rows.flatten inner := by
  obtain ⟨v0, hv0, hz, g0, n0, inner, cur, rfl, hg, h1, h3, h4, h5, h6, hc⟩ := h.ob _ _ h2
  cases hx with
  | own0 _ _ hv => omega
  | ownE _ _ _ g m c o' c' hv h0 _ => omega
  | own _ _ _ _ g m cap hv hle' hmax =>
    rw [hv0] at hv
    cases hv
    exact ⟨_, _, _, _, hv0, rfl, hle', hz, hg, h1, h3, h4, h5, h6, hc⟩
/-- How much room a row has. -/
theorem Does.cap {t e s b : Nat} {x : Operand} {id len : Nat} {rows : List (List AV)} (hg : o.guard = none) (ho : o.op = .call { callee := .builtin .cap, args := #[x], argTypes := #[t] }) (ht : slT P t = some (e, s, b)) (hx : ev T x = .own id 0 len s) (h2 : H id = some (.row e s rows)) (hl : 0 < len)
    (hk : ∀ c, rows.length ≤ c → len ≤ c → c ≤ maxLen → K (.v (.int .i64 (c : Int))) (set H id (some (.rowc e s rows c)))) : Does P n ops o T H K := by
  intro a w ρ h1 hd h3 h4 N Q hN
  rw [if_pos (by simp [Region.wanted, hg])]
  have h5 := ev_rep h4 x
  rw [hx] at h5
  obtain ⟨g, cap, cur, inner, q1, q2, q3, q4, q5, q6, q7, q8, q9, q10, q11⟩ := row_at h3 h2 h5 hl
  obtain ⟨hu, he, _⟩ := slT_some ht
  have hw := h3.write (.rowc e s rows cap) h2 q1 rfl rfl rfl (Nat.le_refl _) (fun _ _ _ => rfl) (fun ρ' H' e' _ => ⟨q4, g, rows.length, inner, cur, rfl, q5, q6, q7, q8, q9, q10, e'.cells q11⟩)
  unfold Oper.wp
  rw [run_op_cap (v' := goInt cap) (w' := w) ho (by
    rw [q2]
    simp [Builtin.cap_, run_underlying hu])]
  exact hN _ w ρ _ _ hw.1 hw.2 (.v _) (hk cap q6 (by omega) q7)
/-- A part up to the room that there is. -/
theorem Does.slice_room {t e s b : Nat} {x : Operand} {lo hi : Option Operand} {id len l h c : Nat} {rows : List (List AV)} (hg : o.guard = none) (ho : o.op = .slice t x lo hi none) (ht : slT P t = some (e, s, b)) (hx : ev T x = .own id 0 len s) (h2 : H id = some (.rowc e s rows c)) (hl : 0 < len)
    (hb : Bnds T c lo hi l h) (hhi : hi ≠ none) (h1 : l ≤ h) (hh : h ≤ c) (hk : K (.own id l (h - l) s) H) : Does P n ops o T H K := by
  refine Does.val _ hg (fun a w ρ hrel hr => ?_) hk
  have h3 := hr x
  rw [hx] at h3
  obtain ⟨g, m, cur, inner, q1, q2, q3, q4, q5, q6, q7, q8, q9, q10, q11⟩ := rowc_at hrel h2 h3 hl
  obtain ⟨hu, he, _⟩ := slT_some ht
  have hrep : Rep (okOf ρ H) ρ w (.own id 0 c s) (.slice (some ⟨g, 0, none⟩) c c) := by
    have := Rep.own (ok := okOf ρ H) (w := w) id 0 c s g m c q1 (by omega) q7
    simpa using this
  obtain ⟨A', m', cap', e1, e2, e3, e4⟩ := rep_own_sliced hrep h1 hh
  cases e1
  rw [Nat.zero_add] at e4
  refine ⟨_, run_op_slice ho (fun x => run_sliceAt_slice (P := P) (w := w) t x _ _ _ (by rw [he]; exact hu)) ?_, e4⟩
  have := run_bnds (A := some ⟨g, 0, none⟩) (cap := c) hr ht hb h1 hh (Nat.le_refl _)
  rw [q2]
  simp only [Nat.zero_mul, Nat.sub_zero]
  have hu' : P.underlying t = some (.slice (P.elem t)) := by rw [he]; exact hu
  have hsz : (sizeOf (P.elem t)).run P w = .ok s w := by rw [he]; exact slT_size ht w
  cases hb with
  | all => exact absurd rfl hhi
  | lo y k _ hy => exact absurd rfl hhi
  | hi y k _ hy =>
    have hy' := hr y; rw [hy] at hy'
    simp only [Option.map_none, Option.map_some, rep_v hy']
    rw [run_slice_h (P := P) w t _ len c hu' k h (by omega) (by omega), hsz]
    simp
  | both y z k k' _ _ hy hz =>
    have hy' := hr y; rw [hy] at hy'
    have hz' := hr z; rw [hz] at hz'
    simp only [Option.map_some, Option.map_none, rep_v hy', rep_v hz']
    rw [run_slice_lh (P := P) w t _ len c hu' k k' l h (by omega) (by omega) (by omega), hsz]
    simp
/-- Zeros behind the first elements of a row, where there is no room for them: a new row; the old one stays. -/
theorem Does.zeros_new {t tn e sz b : Nat} {x y : Operand} {id i k c : Nat} {kq kn : IntKind} {rows : List (List AV)} {zv : Value} {zs : List AV} (hg : o.guard = none) (ho : o.op = .call { callee := .builtin .append, args := #[x, y], argTypes := #[t, tn] }) (ht : RowT P t e sz b) (htn : P.underlying tn = some (.int kn))
    (hx : ev T x = .own id 0 i sz) (h2 : H id = some (.rowc e sz rows c)) (hy : ev T y = .v (.int kq (k : Int))) (hi : i ≤ rows.length) (h0 : 0 < rows.length) (hgr : c < i + k) (hb : (i + k) * b ≤ 140737488355328) (hz0 : (P.info? e).map (·.zero) = some (some zv)) (hzs : zv.cells.toList.map AV.v = zs)
    (hk : ∀ id', H id' = none → K (.own id' 0 (i + k) sz) (set H id' (some (.row e sz (rows.take i ++ List.replicate k zs))))) : Does P n ops o T H K := by
  refine Does.newOb hg fun a w ρ hrel hr => ?_
  have h3 := hr x
  rw [hx] at h3
  have hyv := rep_v (by have := hr y; rw [hy] at this; exact this)
  obtain ⟨v0, hv0, hz, g0, n0, inner, cur, rfl, hgc, q1, q3, q4, q5, q6, hc⟩ := hrel.ob _ _ h2
  obtain ⟨hu, he, inf, hinf, hsi, hbi⟩ := slT_some ht.sl
  have hzr : inf.zero = some zv := by rw [hinf] at hz0; simpa using hz0
  obtain ⟨z2, hz2, hzsz, hz1⟩ := ht.zero
  rw [hz0] at hz2; cases hz2
  have hxs : ∃ len' , a.eval x = .slice (some ⟨g0, 0, none⟩) i c ∧ len' = i := by
    generalize hxx : a.eval x = xx at h3
    cases h3 with
    | own0 _ _ hv => rw [hv0] at hv; cases hv
    | ownE _ _ _ g m c o' c' hv h0 _ => exact absurd rfl h0
    | own _ _ _ _ g m cap hv hle' hmax => rw [hv0] at hv; cases hv; exact ⟨i, by simp, rfl⟩
  obtain ⟨_, hxx, _⟩ := hxs
  have hil : inner.length = rows.length * sz := by rw [← hc.1, flatten_len sz _ q6]
  have hik : 0 < k := by omega
  have hkb : k * b ≤ (i + k) * b := Nat.mul_le_mul_right _ (by omega)
  have hb1 : i + k ≤ (i + k) * b := Nat.le_mul_of_pos_right _ ht.b
  have hold : (Builtin.firstCells inf.size i (.slice (some ⟨g0, 0, none⟩) i c)).run P w.drew = .ok (inner.take (i * sz)).toArray w.drew := by
    rw [hsi]
    refine run_firstCells_some (P := P) w.drew sz i ⟨g0, 0, none⟩ i c (inner.take (i * sz)) ?_ ?_
    · rw [List.length_take, hil]; exact Nat.min_eq_left (Nat.mul_le_mul_right _ hi)
    · intro j u hj
      have hj2 : cur[j]? = some u := by
        rw [List.getElem?_take] at hj
        split at hj
        · rw [← q5, List.getElem?_take] at hj
          split at hj
          · simpa using hj
          · cases hj
        · cases hj
      rw [add_plain, Nat.zero_add]
      show World.cell? w.drew _ = _
      have : w.drew.heap = w.heap := rfl
      simp [World.cell?, this, hgc, hj2]
  have hfit : Builtin.nextslicecap (i + k) c * inf.bytes ≤ 281474976710656 := by
    rw [hbi]
    have h7 : Builtin.nextslicecap (i + k) c ≤ 2 * (i + k) := nextslicecap_le (by omega)
    have := Nat.mul_le_mul_right b h7
    rw [Nat.mul_assoc] at this
    omega
  have hrun := Lib.run_append_grow_zeros (P := P) w t tn o.type e inf zv kq kn hu htn hinf hzr (some ⟨g0, 0, none⟩) i c (inner.take (i * sz)) hold k hik (by rw [hsi]; exact ht.sz) hgr (by omega) (by rw [hbi]; omega) hfit
  have hzl : ∀ cs ∈ List.replicate k zs, cs.length = sz := fun cs hcs => by rw [List.eq_of_mem_replicate hcs, ← hzs]; simpa using hzsz
  have hge := grownCap_ge w (i + k) c e
  have hle := grownCap_le_maxLen w (i + k) c e (by simp only [maxLen]; omega)
  have hzc : (Builtin.zeroCells zv.cells k).toList = (List.replicate k zv.cells.toList).flatten := zeroCells_list _ _ (by rw [hzsz]; exact ht.sz)
  have hzcl : ∀ m, (Builtin.zeroCells zv.cells m).size = m * sz := fun m => by unfold Builtin.zeroCells; simp [hzsz]
  have hil2 : (inner.take (i * sz)).length = i * sz := by rw [List.length_take, hil]; exact Nat.min_eq_left (Nat.mul_le_mul_right _ hi)
  have hlen : (rows.take i ++ List.replicate k zs).length = i + k := by simp; omega
  refine ⟨_, .slice (some ⟨w.heap.size, 0, none⟩) (i + k) (grownCap w (i + k) c e), _, .row e sz (rows.take i ++ List.replicate k zs), run_op_append2 ho (by rw [hxx, hyv]; exact hrun), ((Below.refl _ w).drew).alloc (Nat.le_refl _) _, ?_, fun ρ' H' e' => ?_, fun id' hid => ⟨.own id' 0 (i + k) sz, fun ok' ρ' hρ => ?_, hk id' hid⟩⟩
  · intro k' hk'
    simp [blk] at hk'
    subst hk'
    refine ⟨Nat.le_refl _, ?_⟩
    rw [size_alloc]
    exact Nat.lt_succ_self _
  · refine ⟨ht.sz, inner.take (i * sz) ++ (Builtin.zeroCells zv.cells k).toList, ⟨?_, .inr ⟨w.heap.size, grownCap w (i + k) c e, _, by rw [hlen], Nat.zero_le _, heap_alloc_new w.drew _, by rw [hlen]; exact hge, hle, ?_, ?_⟩⟩, ?_, ?_⟩
    · rw [hlen, List.length_append, hil2, Array.length_toList, hzcl, Nat.add_mul]
    · simp only [Array.size_append, List.size_toArray, hil2, hzcl]
      rw [← Nat.add_mul, ← Nat.add_mul]
      congr 1; omega
    · rw [hlen]
      simp only [Array.toList_append]
      rw [List.take_left']
      rw [List.length_append, hil2, Array.length_toList, hzcl, Nat.add_mul]
    · intro cs hcs
      rcases List.mem_append.1 hcs with h | h
      · exact q6 cs (List.mem_of_mem_take h)
      · exact hzl cs h
    · rw [List.flatten_append, flatten_take sz _ _ q6]
      refine repcells_append ?_ ?_
      · have := repcells_sub (e'.cells hc) 0 (i * sz)
        simpa using this
      · rw [hzc]
        have e1 : (List.replicate k zs).flatten = ((List.replicate k zv.cells.toList).flatten).map AV.v := by rw [List.map_flatten, List.map_replicate, hzs]
        rw [e1]
        exact repcells_v _ (by
          rw [List.all_eq_true]
          intro y hy
          obtain ⟨l', hl', hy'⟩ := List.mem_flatten.1 hy
          rw [List.eq_of_mem_replicate hl'] at hy'
          exact List.all_eq_true.1 hz1 y hy')
  · have := Rep.own (ok := ok') (ρ := ρ') (w := w.drew.alloc (.cells ((inner.take (i * sz)).toArray ++ Builtin.zeroCells zv.cells k ++ Builtin.zeroCells zv.cells (grownCap w (i + k) c e - (i + k))) e)) id' 0 (i + k) sz w.heap.size (i + k) (grownCap w (i + k) c e) hρ (by omega) hle
    simpa using this
/-- What a copy reads: the first elements of what lies there (ls of them are said to be there). -/
inductive SrcP (H : Hp) (sz : Nat) : AV → Nat → List (List AV) → Prop
  | of (u : AV) (rows : List (List AV)) (m : Nat) (h : Src H sz u rows) (hm : m ≤ rows.length) : SrcP H sz u rows.length (rows.take m)
  | rowc (id off len e c : Nat) (rows0 : List (List AV)) (m : Nat) (h : H id = some (.rowc e sz rows0 c)) (hm : m ≤ len) (hle : off + m ≤ rows0.length) : SrcP H sz (.own id off len sz) len ((rows0.drop off).take m)
theorem srcP_run {sz ls : Nat} (hz : 0 < sz) {u : AV} {news : List (List AV)} {ρ : Rho} {w : World} {x : Value} (hr : HRel ρ H w) (h : SrcP H sz u ls news) (hx : Rep (okOf ρ H) ρ w u x) :
    ∃ nv, RepCells (okOf ρ H) ρ w news.flatten nv ∧ nv.length = news.length * sz ∧ (∀ cs ∈ news, cs.length = sz) ∧ ((∃ c, x = .slice none 0 c ∧ ls = 0 ∧ news = []) ∨ ∃ ad c, x = .slice (some ad) ls c ∧ ∀ j y, nv[j]? = some y → w.cell? (ad.add j) = some y) := by
  cases h with
  | of _ rows m hs hm =>
    obtain ⟨nv, h1, h2, h3⟩ := src_run hz hr hs hx
    have hrl := src_len hr hs
    have htl : (rows.take m).length = m := by rw [List.length_take]; omega
    refine ⟨nv.take (m * sz), ?_, ?_, fun cs hcs => hrl cs (List.mem_of_mem_take hcs), ?_⟩
    · rw [flatten_take sz _ _ hrl]
      have := repcells_sub h1 0 (m * sz)
      simpa using this
    · rw [List.length_take, h2, htl]; exact Nat.min_eq_left (Nat.mul_le_mul_right _ hm)
    · rcases h3 with ⟨rfl, rfl⟩ | ⟨ad, c, rfl, hc⟩
      · exact .inl ⟨0, rfl, rfl, by simp⟩
      · refine .inr ⟨ad, c, rfl, fun j y hj => hc j y ?_⟩
        rw [List.getElem?_take] at hj
        split at hj
        · exact hj
        · cases hj
  | rowc id off _ e c rows0 m h hm hle =>
    by_cases hls : ls = 0
    · subst hls
      have hm0 : m = 0 := by omega
      subst hm0
      cases hx with
      | own0 _ _ hv => exact ⟨[], by simpa using repcells_nil, by simp, by simp, .inl ⟨0, rfl, rfl, by simp⟩⟩
      | own _ _ _ _ g n cap hv hle' hmax => exact ⟨[], by simpa using repcells_nil, by simp, by simp, .inr ⟨_, _, rfl, fun j y hj => by simp at hj⟩⟩
      | ownE _ _ _ g m c o' c' hv h0 _ => exact ⟨[], by simpa using repcells_nil, by simp, by simp, .inr ⟨_, _, rfl, fun j y hj => by simp at hj⟩⟩
    · obtain ⟨g, n, cur, inner, q1, q2, q3, q4, q5, q6, q7, q8, q9, q10, q11⟩ := rowc_at hr h hx (by omega)
      have hil : inner.length = rows0.length * sz := by rw [← q11.1, flatten_len sz _ q10]
      have hdt : ∀ cs ∈ (rows0.drop off).take m, cs.length = sz := fun cs hcs => q10 cs (List.mem_of_mem_drop (List.mem_of_mem_take hcs))
      have hlt : ((rows0.drop off).take m).length = m := by simp; omega
      have hmm : off * sz + m * sz ≤ rows0.length * sz := by rw [← Nat.add_mul]; exact Nat.mul_le_mul_right _ hle
      refine ⟨(inner.drop (off * sz)).take (m * sz), ?_, ?_, hdt, .inr ⟨_, _, q2, fun j y hj => ?_⟩⟩
      · rw [flatten_take sz _ _ (fun cs hcs => q10 cs (List.mem_of_mem_drop hcs)), flatten_drop sz _ _ q10]
        exact repcells_sub q11 _ _
      · rw [List.length_take, List.length_drop, hil, hlt]; omega
      · rw [List.getElem?_take] at hj
        split at hj
        · rw [List.getElem?_drop, ← q9, List.getElem?_take] at hj
          split at hj
          · rw [add_plain]
            have hj2 : cur[off * sz + j]? = some y := by simpa using hj
            simp [World.cell?, q5, hj2]
          · cases hj
        · cases hj
/-- Into a row that one owns, part by part: the run of 'copy'. -/
theorem run_copy_own {w : World} {e0 t t' ty e sz b g p dl dc ls : Nat} {cur : Array Value} {x : Value} {nv : List Value} {m : Nat} (ht : slT P t = some (e, sz, b)) (hgc : w.heap[g]? = some (.cells cur e0 (0, 0))) (hm : Nat.min ls dl = m) (hl : nv.length = m * sz) (h1 : ∀ v ∈ nv, v.oneCell' = true)
    (hsrc : (∃ c, x = .slice none 0 c ∧ ls = 0) ∨ ∃ ad c, x = .slice (some ad) ls c ∧ ∀ j y, nv[j]? = some y → w.cell? (ad.add j) = some y) (hfit : p + m * sz ≤ cur.size) :
    ∃ w', (Builtin.copy_ #[t, t'] ty #[.slice (some ⟨g, p, none⟩) dl dc, x]).run P w = .ok (goInt m) w' ∧ Wrote w w' g (.cells (setL cur.toList p nv).toArray e0 (0, 0)) := by
  obtain ⟨hu, he, i, hi, hsi, hbi⟩ := slT_some ht
  obtain ⟨w', hst, hw⟩ := run_storeL (P := P) g e0 p nv 0 w cur hgc (by rw [hl]; simpa using hfit) h1
  refine ⟨w', ?_, by simpa using hw⟩
  have hsz : (sizeOf e).run P w = .ok sz w := by simp [sizeOf, typeInfo, hi, hsi, go_sem]
  rcases hsrc with ⟨c, rfl, rfl⟩ | ⟨ad, c, rfl, hc⟩
  · have hm0 : m = 0 := by rw [← hm]; simp [Nat.min_def]
    subst hm0
    have hn0 : nv = [] := List.eq_nil_of_length_eq_zero (by simpa using hl)
    subst hn0
    obtain rfl : w = w' := by simpa [storeCells, go_sem] using hst
    simp [Builtin.copy_, run_underlying hu, Builtin.lenOf, Builtin.firstCells, hsz, go_sem, Nat.min_def]
  · have hf := run_firstCells_some (P := P) w sz m ad ls c nv hl hc
    simp only [Builtin.firstCells, loadCells] at hf
    have hm' : ls.min dl = m := hm
    simp [Builtin.copy_, run_underlying hu, Builtin.lenOf, Builtin.firstCells, loadCells, hsz, hm', hf, hst, go_sem]
/-- Into a row of one's own, within what is known of it. -/
theorem Does.copy_row {t t' e sz b : Nat} {x y : Operand} {id off dl ls m : Nat} {rows news : List (List AV)} (hg : o.guard = none) (ho : o.op = .call { callee := .builtin .copy, args := #[x, y], argTypes := #[t, t'] }) (ht : slT P t = some (e, sz, b))
    (hx : ev T x = .own id off dl sz) (h2 : H id = some (.row e sz rows)) (hd0 : 0 < dl) (hsrc : SrcP H sz (ev T y) ls news) (hm : Nat.min ls dl = m) (hnl : news.length = m) (hle : off + m ≤ rows.length)
    (hk : K (.v (.int .i64 (m : Int))) (set H id (some (.row e sz (rows.take off ++ news ++ rows.drop (off + m)))))) : Does P n ops o T H K := by
  intro a w ρ h1 hd h3 h4 N Q hN
  rw [if_pos (by simp [Region.wanted, hg])]
  have hr := ev_rep h4
  have h5 := hr x
  rw [hx] at h5
  obtain ⟨g, cap, cur, inner, q1, q2, q3, q4, q5, q6, q7, q8, q9, q10, q11⟩ := row_at h3 h2 h5 hd0
  obtain ⟨nv, r1, r2, r3, r4⟩ := srcP_run q4 h3 hsrc (hr y)
  have hil : inner.length = rows.length * sz := by rw [← q11.1, flatten_len sz _ q10]
  have hfit : off * sz + m * sz ≤ cur.size := by rw [q8, ← Nat.add_mul]; exact Nat.mul_le_mul_right _ (by omega)
  have hone : ∀ v ∈ nv, v.oneCell' = true := fun v hv => by
    obtain ⟨j, hj⟩ := List.getElem?_of_mem hv
    have hlt : j < news.flatten.length := by rw [r1.1]; exact (List.getElem?_eq_some_iff.1 hj).1
    exact (r1.2 j _ v (List.getElem?_eq_getElem hlt) hj).2
  obtain ⟨w', hrun, hw⟩ := run_copy_own (P := P) (t' := t') (ty := o.type) (dl := dl) (dc := cap - off) ht q5 hm (by rw [r2, hnl]) hone (r4.imp (fun ⟨c, a1, a2, _⟩ => ⟨c, a1, a2⟩) (fun h => h)) hfit
  unfold Oper.wp
  rw [run_op_copy ho (by rw [q2]; exact hrun)]
  have hsp : (rows.take off ++ news ++ rows.drop (off + m)) = rows.take off ++ news ++ rows.drop (off + news.length) := by rw [hnl]
  have := h3.write (.row e sz (rows.take off ++ news ++ rows.drop (off + m))) h2 q1 hw.os hw.tape hw.output (by rw [hw.size]; exact Nat.le_refl _) (fun k _ hk => hw.block k (fun e => hk (by rw [e]; rfl)))
    (fun ρ' H' e' _ => by rw [hsp]; exact obrel_splice q4 q10 r3 (by omega) rfl q6 q7 q8 q9 hil q11 r1 hw.at_ e')
  exact hN _ w' ρ _ _ this.1 this.2 (.v _) hk
/-- Into a row whose room is known: what is known of it may grow. -/
theorem Does.copy_rowc {t t' e sz b : Nat} {x y : Operand} {id off dl ls m c : Nat} {rows news : List (List AV)} (hg : o.guard = none) (ho : o.op = .call { callee := .builtin .copy, args := #[x, y], argTypes := #[t, t'] }) (ht : slT P t = some (e, sz, b))
    (hx : ev T x = .own id off dl sz) (h2 : H id = some (.rowc e sz rows c)) (hd0 : 0 < dl) (hsrc : SrcP H sz (ev T y) ls news) (hm : Nat.min ls dl = m) (hnl : news.length = m) (hle : off ≤ rows.length) (hc : off + m ≤ c)
    (hk : K (.v (.int .i64 (m : Int))) (set H id (some (.rowc e sz (rows.take off ++ news ++ rows.drop (off + m)) c)))) : Does P n ops o T H K := by
  intro a w ρ h1 hd h3 h4 N Q hN
  rw [if_pos (by simp [Region.wanted, hg])]
  have hr := ev_rep h4
  have h5 := hr x
  rw [hx] at h5
  obtain ⟨g, n0, cur, inner, q1, q2, q3, q4, q5, q6, q7, q8, q9, q10, q11⟩ := rowc_at h3 h2 h5 hd0
  obtain ⟨nv, r1, r2, r3, r4⟩ := srcP_run q4 h3 hsrc (hr y)
  have hil : inner.length = rows.length * sz := by rw [← q11.1, flatten_len sz _ q10]
  have hfit : off * sz + m * sz ≤ cur.size := by rw [q8, ← Nat.add_mul]; exact Nat.mul_le_mul_right _ (by omega)
  have hone : ∀ v ∈ nv, v.oneCell' = true := fun v hv => by
    obtain ⟨j, hj⟩ := List.getElem?_of_mem hv
    have hlt : j < news.flatten.length := by rw [r1.1]; exact (List.getElem?_eq_some_iff.1 hj).1
    exact (r1.2 j _ v (List.getElem?_eq_getElem hlt) hj).2
  obtain ⟨w', hrun, hw⟩ := run_copy_own (P := P) (t' := t') (ty := o.type) (dl := dl) (dc := c - off) ht q5 hm (by rw [r2, hnl]) hone (r4.imp (fun ⟨c, a1, a2, _⟩ => ⟨c, a1, a2⟩) (fun h => h)) hfit
  unfold Oper.wp
  rw [run_op_copy ho (by rw [q2]; exact hrun)]
  have hnvl : nv.length = m * sz := by rw [r2, hnl]
  have hlen : (rows.take off ++ news ++ rows.drop (off + m)).length = max rows.length (off + m) := by simp [hnl]; omega
  have := h3.write (.rowc e sz (rows.take off ++ news ++ rows.drop (off + m)) c) h2 q1 hw.os hw.tape hw.output (by rw [hw.size]; exact Nat.le_refl _) (fun k _ hk => hw.block k (fun e => hk (by rw [e]; rfl)))
    (fun ρ' H' e' _ => by
      refine ⟨q4, g, n0, inner.take (off * sz) ++ nv ++ inner.drop ((off + m) * sz), _, rfl, hw.at_, by rw [hlen]; omega, q7, by simp [setL_length, q8], ?_, fun cs hcs => ?_, ?_⟩
      · show (setL cur.toList _ nv).take _ = _
        rw [hlen, setL_splice _ _ _ (by rw [hnvl]; simpa using hfit), hnvl, ← q9]
        have hoff : off * sz ≤ rows.length * sz := Nat.mul_le_mul_right _ hle
        have hcl : cur.toList.length = c * sz := by simpa using q8
        rw [List.take_take, Nat.min_eq_left hoff]
        rcases Nat.le_total rows.length (off + m) with hcase | hcase
        · rw [Nat.max_eq_right hcase]
          have h6 : rows.length * sz ≤ (off + m) * sz := Nat.mul_le_mul_right _ hcase
          rw [List.drop_of_length_le (l := List.take (rows.length * sz) cur.toList) (by rw [List.length_take]; omega), List.append_nil, List.take_left']
          rw [List.length_append, List.length_take, hcl, hnvl, Nat.add_mul]
          have : off * sz ≤ c * sz := Nat.mul_le_mul_right _ (by omega)
          omega
        · rw [Nat.max_eq_left hcase]
          have h6 : (off + m) * sz ≤ rows.length * sz := Nat.mul_le_mul_right _ hcase
          have h7 : rows.length * sz ≤ c * sz := Nat.mul_le_mul_right _ q6
          have h8 : (cur.toList.take (off * sz) ++ nv).length = (off + m) * sz := by
            rw [List.length_append, List.length_take, hcl, hnvl, Nat.add_mul]
            have : off * sz ≤ c * sz := Nat.mul_le_mul_right _ (by omega)
            omega
          rw [List.take_append, h8, List.take_of_length_le (by omega), Nat.add_mul]
          congr 1
          rw [List.drop_take]
      · rcases List.mem_append.1 hcs with hcs | hcs
        · rcases List.mem_append.1 hcs with hcs | hcs
          · exact q10 cs (List.mem_of_mem_take hcs)
          · exact r3 cs hcs
        · exact q10 cs (List.mem_of_mem_drop hcs)
      · rw [List.flatten_append, List.flatten_append, flatten_take sz _ _ q10, flatten_drop sz _ _ q10]
        refine e'.cells (repcells_append (repcells_append ?_ r1) ?_)
        · have := repcells_sub q11 0 (off * sz)
          simpa using this
        · have := repcells_sub q11 ((off + m) * sz) (inner.length)
          rw [List.take_of_length_le (by rw [List.length_drop, q11.1]; omega), List.take_of_length_le (by rw [List.length_drop]; omega)] at this
          exact this)
  exact hN _ w' ρ _ _ this.1 this.2 (.v _) hk
/-- Two rows of one's own lie apart. -/
theorem Does.overlaps {t tr e sz b : Nat} {f : FuncId} {fn : Func} {cc x y : Operand} {at_ : Array TypeId} {id1 id2 off1 off2 len1 len2 c : Nat} {rows1 rows2 : List (List AV)} (hg : o.guard = none) (ho : o.op = .call { callee := .value cc, args := #[x, y], argTypes := at_ }) (hc : ev T cc = .clo f [])
    (hf : P.funcs[f]? = some fn) (hname : (fn.name == "runtime.NumGoroutine") = false) (hb : fn.body.isNone = true) (hn : Extern.findNext fn = none) (he : Extern.find fn = some (Extern.SlicesOverlaps.overlaps #[t, t] #[tr])) (ht : slT P t = some (e, sz, b))
    (hx : ev T x = .own id1 off1 len1 sz) (h1 : H id1 = some (.row e sz rows1)) (hy : ev T y = .own id2 off2 len2 sz) (h2 : H id2 = some (.rowc e sz rows2 c)) (hne : id1 ≠ id2) (hl1 : 0 < len1) (hl2 : 0 < len2) (hk : K (.v (.bool false)) H) : Does P n ops o T H K := by
  refine Does.val _ hg (fun a w ρ h hr => ?_) hk
  have h5 := hr cc; rw [hc] at h5
  have h6 := hr x; rw [hx] at h6
  have h7 := hr y; rw [hy] at h7
  obtain ⟨vs, hv, hl, hvs⟩ := rep_clo h5
  have hvs0 : vs = [] := List.eq_nil_of_length_eq_zero (by simpa using hl.symm)
  subst hvs0
  obtain ⟨g1, cap1, cur1, inner1, a1, a2, a3, a4, a5, a6, a7, a8, a9, a10, a11⟩ := row_at h h1 h6 hl1
  obtain ⟨g2, m2, cur2, inner2, b1, b2, b3, b4, b5, b6, b7, b8, b9, b10, b11⟩ := rowc_at h h2 h7 hl2
  have hgne : g1 ≠ g2 := fun hgg => hne (h.apart id1 id2 _ _ _ _ g1 h1 h2 a1 b1 rfl (by rw [hgg]; rfl))
  obtain ⟨hu, he2, _⟩ := slT_some ht
  refine ⟨_, ?_, .v _⟩
  have h8 := run_callFunc_extern (P := P) hf hname hb hn he #[a.eval x, a.eval y] w
  rw [a2, b2, Lib.run_overlaps_apart w t tr e hu sz (fun w => slT_size ht w) ⟨g1, off1 * sz, none⟩ ⟨g2, off2 * sz, none⟩ len1 (cap1 - off1) len2 (c - off2) hgne e e cur1.size cur2.size (by simp [World.shape?, a5]) (by simp [World.shape?, b5]) (by rw [b8]; exact Nat.ne_of_gt (Nat.mul_pos (by omega) b4)) (by simp [World.frozen?, a5]) (by simp [World.frozen?, a5])] at h8
  unfold execOp
  rw [ho]
  generalize a.eval = ev' at hv a2 b2 ⊢
  simp only [resolve, Deferred.ofValue, hv, invoke, Sem.run_bind, Sem.run_pure, Result.andThen_ok, List.map_toArray, List.map_cons, List.map_nil, a2, b2]
  simpa using h8
end
section
variable {P : Program} {n : Nat} {ops : Array Oper} {Q : AEx → Sl → Hp → Prop} {H0 : Hp} {l : List (Nat × AV)} {objs objs' : List (Nat × Ob)} {rest : List Oper} {c1 c2 : Code}
variable {dst : Option Nat} {ty : TypeId} {ps : String} {af : Array Edge} {op : Op} {o : Oper} {x y z v : Operand} {u r : AV} {t t2 t' tn tr e sz b : Nat} {id id2 k k2 off dn fn_ g len c m : Nat} {ob : Ob} {rows rows2 rws news : List (List AV)} {lo hi : Option Operand}
variable {K : AV → List (Nat × Ob) → Prop} {ki kj kn kq : IntKind}
theorem D.cap (k : Nat) (ht : slT P t = some (e, sz, b)) (hx : evO l x = some (.own id 0 len sz)) (h2 : objs[k]? = some (id, .row e sz rows)) (hl : 0 < len)
    (hk : ∀ c, rows.length ≤ c → len ≤ c → c ≤ maxLen → K (.v (.int .i64 (c : Int))) (objs.set k (id, .rowc e sz rows c))) : DS P n ops H0 ⟨dst, .call { callee := .builtin .cap, args := #[x], argTypes := #[t] }, ty, ps, af, none⟩ l objs K :=
  fun hdist => Does.cap rfl rfl ht (ev_of hx) (hdist.at_ h2) hl fun c h1 h3 h4 => ⟨_, (hdist.set_ _ h2).1, (hdist.set_ _ h2).2, hk c h1 h3 h4⟩
/-- A nil slice has no room. -/
theorem D.slr {a a' : Nat} (k : Nat) (ht : slT P t = some (e, sz, b)) (hx : evO l x = some (.own id 0 len sz)) (h2 : objs[k]? = some (id, .rowc e sz rows c)) (hl : 0 < len) (hb : BndsO l c lo hi a a') (hhi : hi ≠ none) (h1 : a ≤ a') (hh : a' ≤ c) (hk : K (.own id a (a' - a) sz) objs) : DS P n ops H0 ⟨dst, .slice t x lo hi none, ty, ps, af, none⟩ l objs K :=
  fun hdist => Does.slice_room rfl rfl ht (ev_of hx) (hdist.at_ h2) hl hb.to hhi h1 hh ⟨objs, rfl, hdist, hk⟩
theorem D.apz {i m : Nat} {zv : Value} {zs : List AV} (k : Nat) (ht : RowT P t e sz b) (htn : P.underlying tn = some (.int kn)) (hx : evO l x = some (.own id 0 i sz)) (h2 : objs[k]? = some (id, .rowc e sz rows c)) (hy : evO l y = some (.v (.int kq (m : Int)))) (hi : i ≤ rows.length) (h0 : 0 < rows.length) (hgr : c < i + m) (hb : (i + m) * b ≤ 140737488355328)
    (hz0 : (P.info? e).map (·.zero) = some (some zv)) (hzs : zv.cells.toList.map AV.v = zs) (hr : rows.take i ++ List.replicate m zs = rws) (hk : ∀ id', id' ≠ id → K (.own id' 0 (i + m) sz) ((id', .row e sz rws) :: objs)) : DS P n ops H0 ⟨dst, .call { callee := .builtin .append, args := #[x, y], argTypes := #[t, tn] }, ty, ps, af, none⟩ l objs K := by
  subst hr
  exact fun hdist => Does.zeros_new rfl rfl ht htn (ev_of hx) (hdist.at_ h2) (ev_of hy) hi h0 hgr hb hz0 hzs fun id' hid => ⟨(id', .row e sz (rows.take i ++ List.replicate m zs)) :: objs, rfl, .cons hid hdist, hk id' (fun he => by rw [he, hdist.at_ h2] at hid; cases hid)⟩
inductive SrcPO (objs : List (Nat × Ob)) (sz : Nat) : AV → Nat → List (List AV) → Prop
  | of {u : AV} {rows news : List (List AV)} {m ls : Nat} (h : SrcO objs sz u rows) (hm : m ≤ rows.length) (hls : rows.length = ls) (hr : rows.take m = news) : SrcPO objs sz u ls news
  | rowc {id off len e c k : Nat} {rows0 news : List (List AV)} {m : Nat} (h : objs[k]? = some (id, .rowc e sz rows0 c)) (hm : m ≤ len) (hle : off + m ≤ rows0.length) (hr : (rows0.drop off).take m = news) : SrcPO objs sz (.own id off len sz) len news
theorem SrcPO.to (hd : Dist H0 objs) {u : AV} {ls : Nat} {rs : List (List AV)} (h : SrcPO objs sz u ls rs) : SrcP (extH H0 objs) sz u ls rs := by
  cases h with
  | of h hm hls hr => subst hls hr; exact .of _ _ _ (h.to hd) hm
  | rowc h hm hle hr => subst hr; exact .rowc _ _ _ _ _ _ _ (hd.at_ h) hm hle
theorem D.cpr {dl ls : Nat} (k : Nat) (ht : slT P t = some (e, sz, b)) (hx : evO l x = some (.own id off dl sz)) (h2 : objs[k]? = some (id, .row e sz rows)) (hy : evO l y = some u) (hd0 : 0 < dl) (hsrc : SrcPO objs sz u ls news) (hm : Nat.min ls dl = m) (hnl : news.length = m) (hle : off + m ≤ rows.length) (hr : rows.take off ++ news ++ rows.drop (off + m) = rws)
    (hk : K (.v (.int .i64 (m : Int))) (objs.set k (id, .row e sz rws))) : DS P n ops H0 ⟨dst, .call { callee := .builtin .copy, args := #[x, y], argTypes := #[t, t'] }, ty, ps, af, none⟩ l objs K := by
  subst hr
  exact fun hdist => Does.copy_row rfl rfl ht (ev_of hx) (hdist.at_ h2) hd0 (by rw [ev_of hy]; exact hsrc.to hdist) hm hnl hle ⟨_, (hdist.set_ _ h2).1, (hdist.set_ _ h2).2, hk⟩
theorem D.cpc {dl ls : Nat} (k : Nat) (ht : slT P t = some (e, sz, b)) (hx : evO l x = some (.own id off dl sz)) (h2 : objs[k]? = some (id, .rowc e sz rows c)) (hy : evO l y = some u) (hd0 : 0 < dl) (hsrc : SrcPO objs sz u ls news) (hm : Nat.min ls dl = m) (hnl : news.length = m) (hle : off ≤ rows.length) (hc : off + m ≤ c) (hr : rows.take off ++ news ++ rows.drop (off + m) = rws)
    (hk : K (.v (.int .i64 (m : Int))) (objs.set k (id, .rowc e sz rws c))) : DS P n ops H0 ⟨dst, .call { callee := .builtin .copy, args := #[x, y], argTypes := #[t, t'] }, ty, ps, af, none⟩ l objs K := by
  subst hr
  exact fun hdist => Does.copy_rowc rfl rfl ht (ev_of hx) (hdist.at_ h2) hd0 (by rw [ev_of hy]; exact hsrc.to hdist) hm hnl hle hc ⟨_, (hdist.set_ _ h2).1, (hdist.set_ _ h2).2, hk⟩
theorem D.ovl {f : Nat} {fn : Func} {cc : Operand} {at_ : Array TypeId} {off1 off2 len1 len2 : Nat} (k k2 : Nat) (hf : P.funcs[f]? = some fn) (ht : slT P t = some (e, sz, b)) (hc : evO l cc = some (.clo f [])) (hx : evO l x = some (.own id off1 len1 sz)) (h1 : objs[k]? = some (id, .row e sz rows)) (hy : evO l y = some (.own id2 off2 len2 sz)) (h2 : objs[k2]? = some (id2, .rowc e sz rows2 c))
    (hne : id ≠ id2) (hl1 : 0 < len1) (hl2 : 0 < len2) (hk : K (.v (.bool false)) objs) (he : Extern.find fn = some (Extern.SlicesOverlaps.overlaps #[t, t] #[tr]))
    (hname : (fn.name == "runtime.NumGoroutine") = false := by kernel_rfl) (hb : fn.body.isNone = true := by rfl) (hnx : Extern.findNext fn = none := by kernel_rfl) : DS P n ops H0 ⟨dst, .call { callee := .value cc, args := #[x, y], argTypes := at_ }, ty, ps, af, none⟩ l objs K :=
  fun hdist => Does.overlaps rfl rfl (ev_of hc) hf hname hb hnx he ht (ev_of hx) (hdist.at_ h1) (ev_of hy) (hdist.at_ h2) hne hl1 hl2 ⟨objs, rfl, hdist, hk⟩
/-- The room is forgotten: the row has a new number. -/
theorem US.retag {Q : AEx → Sl → Hp → Prop} {rest : List Oper} (d : Nat) (k : Nat) (hl : look l d = some (.own id off len sz)) (h2 : objs[k]? = some (id, .rowc e sz rows c)) (hlen : 0 < len)
    (hk : ∀ id', US P n ops Q H0 rest ((d, .own id' off len sz) :: l) ((id', .row e sz rows) :: objs.eraseIdx k)) : US P n ops Q H0 rest l objs := by
  intro hd E a w hi
  obtain ⟨ρ, h1, h3, h4⟩ := hi.rel
  have h5 := h4 d
  have h6 : ofL l d = .own id off len sz := by unfold ofL; rw [hl]; rfl
  rw [h6] at h5
  obtain ⟨g, m0, cur, inner, q1, q2, q3, q4, q5, q6, q7, q8, q9, q10, q11⟩ := rowc_at h1 (hd.at_ h2) h5 hlen
  obtain ⟨id', ρ', e1, e2, e3, e4, e5⟩ := h1.move (w' := w) (v := .slice (some ⟨g, 0, none⟩) rows.length c) (.row e sz rows) (hd.at_ h2) q1 rfl rfl rfl (Nat.le_refl _) (fun _ _ _ => rfl)
    (fun k' hk' => by simp [blk] at hk'; subst hk'; exact ⟨.inl rfl, (Array.getElem?_eq_some_iff.1 q5).1⟩)
    (fun ρ' H' e' => ⟨q4, inner, ⟨by rw [← q11.1, flatten_len sz _ q10], .inr ⟨g, c, cur, rfl, Nat.zero_le _, q5, q6, q7, q8, q9⟩⟩, q10, e'.cells q11⟩)
  have hkill := hd.kill h2
  have e6 : set (set (extH H0 objs) id none) id' (some (.row e sz rows)) = extH H0 ((id', .row e sz rows) :: objs.eraseIdx k) := by rw [hkill.1]; rfl
  rw [e6] at e4 e5
  have hd2 : Dist H0 ((id', .row e sz rows) :: objs.eraseIdx k) := by
    refine .cons ?_ hkill.2
    rw [← hkill.1]
    by_cases h : id' = id
    · subst h; simp
    · rw [set_ne _ _ h]; exact e2
  refine hk id' hd2 E a w ⟨hi.size, hi.defers, ρ', e4, h3.trans e5, fun t => ?_⟩
  unfold ofL
  simp only [look]
  by_cases ht : t = d
  · subst ht
    rw [if_pos rfl]
    show Rep _ _ _ (.own id' off len sz) _
    rw [q2]
    exact .own id' off len sz g rows.length c e3 q3 q7
  · rw [if_neg ht]; exact e5.rep (h4 t)
end
end Go.Eng
