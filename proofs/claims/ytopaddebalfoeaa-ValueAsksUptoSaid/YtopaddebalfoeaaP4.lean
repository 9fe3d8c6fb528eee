/- Objects of three keys out of six: in whatever order they are put in. -/
import Derived.Test.YtopaddebalfoeaaP3
namespace Go.Proofs.Ytopaddebalfoeaa
open Go Go.RowKit Go.Eng
set_option linter.unusedSimpArgs false
set_option linter.unusedVariables false
set_option maxRecDepth 100000
def ordL : List ByteArray := [⟨#[97]⟩, ⟨#[98]⟩, ⟨#[195, 169]⟩, ⟨#[97, 98]⟩, ⟨#[]⟩, ⟨#[122]⟩]
def oneO (p q r : ByteArray) (x y : V) : V := withV (withV (withV (.mk 5 0 ⟨#[]⟩ [] []) p x) q y) r x
def twoO (p q r : ByteArray) (x y : V) : V := withV (withV (withV (.mk 5 0 ⟨#[]⟩ [] []) r x) p x) q y
/-- What is said of an order. -/
def OrdOk (p q r : ByteArray) (x y : V) : Prop := ∃ ks vs, oneO p q r x y = .mk 5 0 ⟨#[]⟩ ks vs ∧ twoO p q r x y = .mk 5 0 ⟨#[]⟩ ks vs ∧ ks.length = 3 ∧ keysOk ks = true ∧ (vs = [x, x, y] ∨ vs = [x, y, x] ∨ vs = [y, x, x])
def patO (p q r : ByteArray) : List Bool := (oneO p q r (.mk 2 0 ⟨#[]⟩ [] []) (.mk 2 1 ⟨#[]⟩ [] [])).vs.map fun v => v.n == 1
def okPat (l : List Bool) : Bool := l == [false, false, true] || l == [false, true, false] || l == [true, false, false]
theorem ord_mk {p q r : ByteArray} {x y : V} (h1 : oneO p q r x y = .mk 5 0 ⟨#[]⟩ (oneO p q r x y).ks ((patO p q r).map fun b => if b then y else x)) (h2 : twoO p q r x y = oneO p q r x y) (h3 : (oneO p q r x y).ks.length = 3) (h4 : keysOk (oneO p q r x y).ks = true) (h5 : okPat (patO p q r) = true) : OrdOk p q r x y := by
  refine ⟨_, _, h1, h2.trans h1, h3, h4, ?_⟩
  unfold okPat at h5
  simp only [Bool.or_eq_true, beq_iff_eq] at h5
  rcases h5 with (h | h) | h <;> rw [h]
  · exact .inl rfl
  · exact .inr (.inl rfl)
  · exact .inr (.inr rfl)
theorem ord_ok (p : ByteArray) (hp : p ∈ ordL) (q : ByteArray) (hq : q ∈ ordL) (r : ByteArray) (hr : r ∈ ordL) (h1 : p ≠ q) (h2 : q ≠ r) (h3 : p ≠ r) (x y : V) : OrdOk p q r x y := by
  simp only [ordL, List.mem_cons, List.mem_nil_iff, or_false] at hp hq hr
  rcases hp with h | h | h | h | h | h <;> subst h <;> (rcases hq with h | h | h | h | h | h <;> subst h <;> first | exact absurd rfl h1 | (rcases hr with h | h | h | h | h | h <;> subst h <;> first | exact absurd rfl h2 | exact absurd rfl h3 | exact ord_mk (by kernel_rfl) (by kernel_rfl) (by kernel_rfl) (by kernel_rfl) (by kernel_rfl)))
theorem OrdOk.right {p q r : ByteArray} {x y : V} (h : OrdOk p q r x y) (hx : rightV x = true) (hy : rightV y = true) : rightV (oneO p q r x y) = true := by
  obtain ⟨ks, vs, h1, _, h3, h4, h5⟩ := h
  rw [h1]
  refine right_obj.2 ⟨rfl, by kernel_rfl, h4, by rcases h5 with h | h | h <;> rw [h, h3] <;> rfl, rightsV_all fun i hi => ?_⟩
  have hall : ∀ v ∈ vs, v = x ∨ v = y := by
    intro v hv
    rcases h5 with h | h | h <;> (rw [h] at hv; simp only [List.mem_cons, List.mem_nil_iff, or_false] at hv; rcases hv with h | h | h <;> simp [h])
  rcases hall _ (List.getElem_mem hi) with h | h <;> rw [h] <;> assumption
theorem OrdOk.deep {p q r : ByteArray} {x y : V} (h : OrdOk p q r x y) : deepV (oneO p q r x y) = 1 + (if deepV y > deepV x then deepV y else deepV x) := by
  obtain ⟨ks, vs, h1, _, _, _, h5⟩ := h
  have a := deepV_nonneg x; have b := deepV_nonneg y
  rw [h1, deepV, if_pos (by decide)]
  rcases h5 with h | h | h <;> subst h <;> simp only [deepsV, maxL, List.cons_append, List.nil_append, List.foldl_cons, List.foldl_nil] <;> (repeat' split) <;> omega
end Go.Proofs.Ytopaddebalfoeaa
