/- Arguments of octets: opened as a list. -/
import Derived.Test.YtopaddebalfoeaaS1
import Derived.Test.YtopaddebalfoeaaEr
import Derived.ChangeSlices
namespace Go.Proofs.Ytopaddebalfoeaa
open Go Go.ChangeShapes Go.WideShapes Go.ChangeAt Go.RowKit Go.Eng
set_option linter.unusedVariables false
theorem rep_u8s {W : World} {a : Addr} {len cap : Nat} {zs : List Int} (hl : len ≤ zs.length) (hc : len ≤ cap) (hm : cap ≤ maxLen) (h : ∀ i, i < zs.length → W.cell? (a.add i) = some (.int .u8 (zs.getD i 0))) :
    Rep (okOf noRho noHp) noRho W (u8s (zs.take len)) (.slice (some a) len cap) := by
  have e : ((zs.take len).map encB).length = len := by rw [List.length_map, List.length_take]; omega
  have hr := Rep.sl (ok := okOf noRho noHp) (ρ := noRho) (w := W) ((zs.take len).map encB) a cap 1 (fun i _ => .int .u8 (zs.getD i 0)) (by rw [e]; exact hc) hm (fun hn => ⟨ok_all _, by
      have h0 : 0 < zs.length := by
        cases hs : zs with
        | nil => rw [hs] at hn; simp at hn
        | cons x r => simp
      have := h 0 h0
      simp only [World.cell?, add_block] at this
      rcases Nat.lt_or_ge a.block W.heap.size with h' | h'
      · exact h'
      · simp [Array.getElem?_eq_none h'] at this⟩) (u8s_sz _) (fun i cs j hi hj => by
      have hi2 : i < len := by rw [← e]; exact (List.getElem?_eq_some_iff.1 hi).1
      have hcs : cs.length = 1 := u8s_sz _ cs (List.mem_of_getElem? hi)
      have hj0 : j = 0 := by omega
      subst hj0
      simp only [Nat.mul_one, Nat.add_zero]
      exact ⟨h i (by omega), rfl⟩) (fun i cs j u hi hj => by
      have hi2 : i < len := by rw [← e]; exact (List.getElem?_eq_some_iff.1 hi).1
      have hil : i < zs.length := by omega
      rw [List.getElem?_map, List.getElem?_take, if_pos hi2, List.getElem?_eq_getElem hil] at hi
      cases hi
      match j with
      | 0 =>
        cases hj
        have : zs.getD i 0 = zs[i] := by simp [List.getD, hil]
        rw [this]
        exact .v _
      | j + 1 => simp [encB] at hj)
  rw [e] at hr
  exact hr
theorem open_u8s {H : Type} {enc : TypeId × Value → H} {P : Program} {W : World} {base : Nat} {spare : Nat → Bool} {held : Bool} {t e : TypeId} {v : Value} {d : DataW H} {ps : List MemPlace} {fuel : Nat} (ht : P.underlying t = some (.slice e)) (he : P.underlying e = some (.int .u8)) (hc : P.cellsOf e = 1)
    (hv : ∃ a len cap, v = .slice a len cap) (h : DataW.trod enc P W base spare held fuel t v.cells.toList = some (d, ps)) : ∃ c, Rep (okOf noRho noHp) noRho W (u8s c) v ∧ Bys c := by
  obtain ⟨a0, len0, cap0, rfl⟩ := hv
  rcases open_ints ht he hc h with ⟨hcs, hx⟩ | ⟨a, len, cap, zs, hcs, _, hl, hm, hz, hx, hcell, hwf⟩
  · obtain ⟨rfl, rfl, rfl⟩ : a0 = none ∧ len0 = 0 ∧ cap0 = 0 := by simpa [Value.cells] using hcs
    exact ⟨[], .nil, by intro b hb; cases hb⟩
  · obtain ⟨rfl, rfl, rfl⟩ : a0 = some a ∧ len0 = len ∧ cap0 = cap := by simpa [Value.cells] using hcs
    have hl2 : len0 ≤ zs.length := by rw [hz]; split <;> omega
    refine ⟨zs.take len0, rep_u8s hl2 hl hm hcell, fun b hb => ?_⟩
    have := hwf b (List.mem_of_mem_take hb)
    simp only [Lit.wf, Bool.and_eq_true, decide_eq_true_eq] at this
    exact ⟨this.1, Int.lt_of_le_of_lt this.2 (by decide)⟩
end Go.Proofs.Ytopaddebalfoeaa
