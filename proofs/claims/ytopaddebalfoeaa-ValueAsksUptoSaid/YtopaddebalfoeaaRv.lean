/- Values among a statement's arguments: opened for a walk. -/
import Derived.Test.YtopaddebalfoeaaRows
import Derived.Test.YtopaddebalfoeaaRo
import Derived.Test.YtopaddebalfoeaaL6
import Derived.JoinedCond
import Derived.Carry
import Derived.SliceStrings
import Derived.DataReads
namespace Go.Proofs.Ytopaddebalfoeaa
open Go Go.ChangeShapes Go.WideShapes Go.ChangeAt Go.RowKit Go.Eng
set_option linter.unusedVariables false
set_option maxRecDepth 100000
theorem rep_strsW {W : World} {a : Addr} {len cap : Nat} {ss : List ByteArray} (hl : len ≤ ss.length) (hc : len ≤ cap) (hm : cap ≤ maxLen) (h : ∀ i, i < ss.length → W.cell? (a.add i) = some (.string (ss.getD i ByteArray.empty))) :
    Rep (okOf noRho noHp) noRho W (strs (ss.take len)) (.slice (some a) len cap) := by
  have e : ((ss.take len).map encS).length = len := by rw [List.length_map, List.length_take]; omega
  have hr := Rep.sl (ok := okOf noRho noHp) (ρ := noRho) (w := W) ((ss.take len).map encS) a cap 1 (fun i _ => .string (ss.getD i ByteArray.empty)) (by rw [e]; exact hc) hm (fun hn => ⟨ok_all _, by
      have h0 : 0 < ss.length := by
        cases hs : ss with
        | nil => rw [hs] at hn; simp at hn
        | cons x r => simp
      have := h 0 h0
      simp only [World.cell?, add_block] at this
      rcases Nat.lt_or_ge a.block W.heap.size with h' | h'
      · exact h'
      · simp [Array.getElem?_eq_none h'] at this⟩) (strs_sz _) (fun i cs j hi hj => by
      have hi2 : i < len := by rw [← e]; exact (List.getElem?_eq_some_iff.1 hi).1
      have hcs : cs.length = 1 := strs_sz _ cs (List.mem_of_getElem? hi)
      have hj0 : j = 0 := by omega
      subst hj0
      simp only [Nat.mul_one, Nat.add_zero]
      exact ⟨h i (by omega), rfl⟩) (fun i cs j u hi hj => by
      have hi2 : i < len := by rw [← e]; exact (List.getElem?_eq_some_iff.1 hi).1
      have hil : i < ss.length := by omega
      rw [List.getElem?_map, List.getElem?_take, if_pos hi2, List.getElem?_eq_getElem hil] at hi
      cases hi
      match j with
      | 0 =>
        cases hj
        have : ss.getD i ByteArray.empty = ss[i] := by simp [List.getD, hil]
        rw [this]
        exact .v _
      | j + 1 => simp [encS] at hj)
  rw [e] at hr
  exact hr
theorem bulk_strsW {H : Type} : ∀ l : List ByteArray, Rows.uptoBulkAll (Go.ChangeShapes.strs (H := H) l) = bulk l
  | [] => by simp [Go.ChangeShapes.strs, Rows.uptoBulkAll, bulk]
  | s :: l => by
    have ih := bulk_strsW (H := H) l
    simp only [Go.ChangeShapes.strs, List.map_cons, Rows.uptoBulkAll, Rows.uptoBulk, bulk, Array.length_toList] at ih ⊢
    rw [ih]
    show s.size + 1 + bulk l = _
    omega
/-- One for each place. -/
theorem list_of {Pr : Nat → V → Prop} : ∀ n, (∀ i, i < n → ∃ v, Pr i v) → ∃ l : List V, l.length = n ∧ ∀ i (h : i < l.length), Pr i l[i]
  | 0, _ => ⟨[], rfl, fun i h => by cases h⟩
  | n + 1, h => by
    obtain ⟨l, h1, h2⟩ := list_of n fun i hi => h i (by omega)
    obtain ⟨v, hv⟩ := h n (by omega)
    refine ⟨l ++ [v], by simp [h1], fun i hi => ?_⟩
    by_cases hn : i < n
    · rw [List.getElem_append_left (by omega)]; exact h2 i (by omega)
    · simp at hi
      have : i = n := by omega
      subst this
      rw [List.getElem_append_right (by omega)]
      simpa [h1] using hv
section
variable {H : Type} {enc : TypeId × Value → H} {w : World}
theorem open_strsW {fuel : Nat} {c : Value} {x : DataW H × List MemPlace} (h : DataW.trod enc Try.prog w 0 (fun _ => true) true fuel 24 [c] = some x) : ∃ l, Rep (okOf noRho noHp) noRho w (strs l) c ∧ bulk l ≤ Rows.uptoBulk x.1 ∧ c.oneCell' = true := by
  rcases open_strings Try.underlying24 Try.underlying9 (by kernel_rfl) h with ⟨hcs, hx⟩ | ⟨a, len, cap, ss, hcs, _, hl, hm, hz, hx, hcell, hsz⟩
  · cases hcs; exact ⟨[], .nil, Nat.zero_le _, rfl⟩
  · cases hcs
    have hz' : ss.length = cap := by simpa using hz
    refine ⟨ss.take len, rep_strsW (by omega) hl hm hcell, ?_, rfl⟩
    rw [hx]
    simp only [Rows.uptoBulk, bulk_strsW]
    omega
theorem bulk_at : ∀ (l : List V) (es : List (DataW H)), l.length = es.length → (∀ i (h : i < l.length) (h2 : i < es.length), bulkV l[i] ≤ Rows.uptoBulk es[i]) → bulkVs l ≤ Rows.uptoBulkAll es
  | [], [], _, _ => by simp [bulkVs]
  | x :: r, [], h, _ => by simp at h
  | [], _ :: _, h, _ => by simp at h
  | x :: r, e :: es, h, hb => by
    have h0 := hb 0 (by simp) (by simp)
    have := bulk_at r es (by simpa using h) (fun i h1 h2 => by have := hb (i + 1) (by simp; omega) (by simp; omega); simpa using this)
    simp only [List.getElem_cons_zero] at h0
    rw [bulkVs, Rows.uptoBulkAll]
    omega
theorem open_val : ∀ (fuel : Nat) (cs : List Value) (x : DataW H × List MemPlace), DataW.trod enc Try.prog w 0 (fun _ => true) true fuel 27 cs = some x → ∃ v : V, RepCells (okOf noRho noHp) noRho w (encV v) cs ∧ bulkV v ≤ Rows.uptoBulk x.1 := by
  intro fuel
  induction fuel using Nat.strongRecOn with
  | _ fuel ih =>
  intro cs x h
  obtain ⟨xs, n, rfl, rfl, hl, hlen, hf⟩ := DataW.trod_struct Try.underlying27 h
  rw [show Try.prog.cellsOf 27 = 5 from by kernel_rfl] at hl
  match cs, hl with
  | [c0, c1, c2, c3, c4], _ =>
  match xs, hlen with
  | [y0, y1, y2, y3, y4], _ =>
  have f0 : DataW.trod enc Try.prog w 0 (fun _ => true) true n 3 (([c0, c1, c2, c3, c4].drop 0).take (Try.prog.cellsOf 3)) = some y0 := hf 0 _ rfl
  rw [show Try.prog.cellsOf 3 = 1 from by kernel_rfl] at f0
  replace f0 : DataW.trod enc Try.prog w 0 (fun _ => true) true n 3 [c0] = some y0 := f0
  have f1 : DataW.trod enc Try.prog w 0 (fun _ => true) true n 2 (([c0, c1, c2, c3, c4].drop 1).take (Try.prog.cellsOf 2)) = some y1 := hf 1 _ rfl
  rw [show Try.prog.cellsOf 2 = 1 from by kernel_rfl] at f1
  replace f1 : DataW.trod enc Try.prog w 0 (fun _ => true) true n 2 [c1] = some y1 := f1
  have f2 : DataW.trod enc Try.prog w 0 (fun _ => true) true n 9 (([c0, c1, c2, c3, c4].drop 2).take (Try.prog.cellsOf 9)) = some y2 := hf 2 _ rfl
  rw [show Try.prog.cellsOf 9 = 1 from by kernel_rfl] at f2
  replace f2 : DataW.trod enc Try.prog w 0 (fun _ => true) true n 9 [c2] = some y2 := f2
  have f3 : DataW.trod enc Try.prog w 0 (fun _ => true) true n 24 (([c0, c1, c2, c3, c4].drop 3).take (Try.prog.cellsOf 24)) = some y3 := hf 3 _ rfl
  rw [show Try.prog.cellsOf 24 = 1 from by kernel_rfl] at f3
  replace f3 : DataW.trod enc Try.prog w 0 (fun _ => true) true n 24 [c3] = some y3 := f3
  have f4 : DataW.trod enc Try.prog w 0 (fun _ => true) true n 25 (([c0, c1, c2, c3, c4].drop 4).take (Try.prog.cellsOf 25)) = some y4 := hf 4 _ rfl
  rw [show Try.prog.cellsOf 25 = 1 from by kernel_rfl] at f4
  replace f4 : DataW.trod enc Try.prog w 0 (fun _ => true) true n 25 [c4] = some y4 := f4
  obtain ⟨k, e0, rfl, _⟩ := DataW.trod_int Try.underlying3 f0
  obtain ⟨m, e1, rfl, _⟩ := DataW.trod_int Try.underlying2 f1
  obtain ⟨t, e2, rfl, _⟩ := DataW.trod_string Try.underlying9 f2
  obtain ⟨ks, r3, b3, o3⟩ := open_strsW f3
  cases e0; cases e1; cases e2
  have hlist : ∃ vs : List V, Rep (okOf noRho noHp) noRho w (.sl (encVs vs)) c4 ∧ bulkVs vs ≤ Rows.uptoBulk y4.1 ∧ c4.oneCell' = true := by
    rcases DataW.trod_slice Try.underlying25 f4 with ⟨hcs, hx⟩ | ⟨a, len, cap, elems, rest, q, hq, hcs, rfl, hb, hle, hm, hel, hat, _, _⟩
    · cases hcs; exact ⟨[], .nil, by simp [bulkVs], rfl⟩
    · cases hcs
      rw [show Try.prog.cellsOf 27 = 5 from by kernel_rfl] at hat
      have each : ∀ i, i < len → ∃ v : V, ∃ cs : List Value, w.cells? 0 (a.add (i * 5)) 5 = some cs ∧ RepCells (okOf noRho noHp) noRho w (encV v) cs ∧ ∀ h : i < elems.length, bulkV v ≤ Rows.uptoBulk elems[i].1 := by
        intro i hi
        have h1 := hat i hi
        rw [List.getElem?_eq_getElem (by omega)] at h1
        rw [Option.bind_eq_some_iff] at h1
        obtain ⟨cs, h2, h3⟩ := h1
        obtain ⟨v, h4, h5⟩ := ih q (by omega) cs _ h3
        exact ⟨v, cs, h2, h4, fun _ => h5⟩
      obtain ⟨vs, hv1, hv2⟩ := list_of len each
      refine ⟨vs, ?_, ?_, rfl⟩
      · have e5 := encVs_len vs
        have hcell : ∀ i (hi : i < vs.length), ∃ cs : List Value, RepCells (okOf noRho noHp) noRho w (encV vs[i]) cs ∧ cs.length = 5 ∧ ∀ j, j < 5 → w.cell? (a.add (i * 5 + j)) = cs[j]? := by
          intro i hi
          obtain ⟨cs, h1, h2, _⟩ := hv2 i hi
          obtain ⟨_, h4, h5⟩ := World.cells?_some h1
          exact ⟨cs, h2, h4, fun j hj => by rw [← add_add]; exact h5 j hj⟩
        have hr := Rep.sl (ok := okOf noRho noHp) (ρ := noRho) (w := w) (encVs vs) a cap 5 (fun i j => (w.cell? (a.add (i * 5 + j))).getD undef) (by omega) hm (fun hne => ⟨ok_all _, by
            have h0 : 0 < vs.length := by
              cases hs : vs with
              | nil => rw [hs] at hne; simp [encVs] at hne
              | cons x r => simp
            obtain ⟨cs, _, h1, h2⟩ := hcell 0 h0
            have h3 := h2 0 (by decide)
            rw [List.getElem?_eq_getElem (by omega)] at h3
            simp only [World.cell?, add_block] at h3
            rcases Nat.lt_or_ge a.block w.heap.size with h' | h'
            · exact h'
            · simp [Array.getElem?_eq_none h'] at h3⟩) (encVs_sz _) (fun i us j hi hj => by
            have hiv : i < vs.length := by rw [← e5]; exact (List.getElem?_eq_some_iff.1 hi).1
            rw [encVs_get vs i hiv] at hi
            cases hi
            rw [encV_len] at hj
            obtain ⟨cs, h1, h2, h3⟩ := hcell i hiv
            have h4 := h3 j hj
            rw [List.getElem?_eq_getElem (by omega)] at h4
            rw [h4]
            exact ⟨rfl, (h1.2 j _ _ (List.getElem?_eq_getElem (by rw [encV_len]; exact hj)) (List.getElem?_eq_getElem (by omega))).2⟩) (fun i us j u hi hj => by
            have hiv : i < vs.length := by rw [← e5]; exact (List.getElem?_eq_some_iff.1 hi).1
            rw [encVs_get vs i hiv] at hi
            cases hi
            obtain ⟨cs, h1, h2, h3⟩ := hcell i hiv
            have hj5 : j < 5 := by have := (List.getElem?_eq_some_iff.1 hj).1; rwa [encV_len] at this
            have h4 := h3 j hj5
            rw [List.getElem?_eq_getElem (by omega)] at h4
            rw [h4]
            exact (h1.2 j u _ hj (List.getElem?_eq_getElem (by omega))).1)
        rw [e5, hv1] at hr
        exact hr
      · have := bulk_at vs (elems.map (·.1)) (by simp; omega) (fun i h1 h2 => by
          obtain ⟨cs, _, _, h5⟩ := hv2 i h1
          have := h5 (by simpa using h2)
          simpa using this)
        simp only [Rows.uptoBulk]
        omega
  obtain ⟨vs, r4, b4, o4⟩ := hlist
  refine ⟨.mk k m t ks vs, ⟨rfl, fun j u y hu hy => ?_⟩, ?_⟩
  · match j with
    | 0 => simp [encV] at hu hy; subst hu hy; exact ⟨.v _, rfl⟩
    | 1 => simp [encV] at hu hy; subst hu hy; exact ⟨.v _, rfl⟩
    | 2 => simp [encV] at hu hy; subst hu hy; exact ⟨.v _, rfl⟩
    | 3 => simp [encV] at hu hy; subst hu hy; exact ⟨r3, o3⟩
    | 4 => simp [encV] at hu hy; subst hu hy; exact ⟨r4, o4⟩
    | j + 5 => simp [encV] at hu
  · rw [bulkV]
    simp only [List.map_cons, List.map_nil, Rows.uptoBulk, Rows.uptoBulkAll, Array.length_toList]
    have : t.data.size = t.size := rfl
    omega
end
theorem sz_of : ∀ (n : Nat) (v : V), bulkV v ≤ n → n ≤ 4000000 → Sz v := by
  intro n
  induction n using Nat.strongRecOn with
  | _ n ih =>
  rintro ⟨k, m, t, ks, vs⟩ h hn
  rw [bulkV] at h
  have e1 := bulk_len ks
  have e2 := bulkVs_len vs
  exact .mk _ _ _ _ _ (by omega) (by omega) (by omega) (fun s hs => by have := bulk_mem hs; omega) fun x hx => ih (bulkV x) (by have := bulkVs_mem hx; omega) x (Nat.le_refl _) (by have := bulkVs_mem hx; omega)
end Go.Proofs.Ytopaddebalfoeaa
