/- Numbers that are right. -/
import Derived.Test.YtopaddebalfoeaaV8
namespace Go.Proofs.Ytopaddebalfoeaa
open Go Go.RowKit Go.Eng
set_option linter.unusedSimpArgs false
set_option linter.unusedVariables false
theorem right_spec' (x : V) (hx : Fits x) (b : Bool) (hb : rightV x = b) (H : Hp) : ACall Try.prog 12 [.agg (encV x)] H (IsR H (.v (.bool b))) := by rw [← hb]; exact right_spec x hx H
/-- A value of a kind and a number alone. -/
def kn (k n : Int) : V := .mk k n ⟨#[]⟩ [] []
theorem fits_kn (k n : Int) : Fits (kn k n) := .mk _ _ _ _ _ (by decide) (by decide) (by simp)
/-- The number that may stand in a value of that kind. -/
def may (k n : Int) : Bool := if k = 1 then (n == 0 || n == 1) else if k = 2 then (decide (-9007199254740991 ≤ n) && decide (n ≤ 9007199254740991)) else (n == 0)
theorem right_kn {k n : Int} (h0 : 0 ≤ k) (h5 : k ≤ 5) : rightV (kn k n) = may k n := by
  have e : ((ByteArray.mk #[]).toList == (ByteArray.mk #[]).toList) = true := by simp
  have e2 : keyedV (kn k n) = true := by
    unfold keyedV
    by_cases hk : (kn k n).k = 5
    · rw [if_pos hk]; rfl
    · rw [if_neg hk]; rfl
  unfold kn at e2 ⊢
  rw [rightV, e2, e, decide_eq_true h0, decide_eq_true h5]
  have : rightsV [] = true := rfl
  rw [this]
  simp [numberV, may, V.k, V.n] <;> rfl
theorem num_right (n : Int) : rightV (numV n) = (decide (-9007199254740991 ≤ n) && decide (n ≤ 9007199254740991)) := right_kn (k := 2) (by decide) (by decide)
theorem numbers_spec (n b : Int) (h0 : 0 ≤ b) (h1 : b ≤ 255) (H : Hp) : ACall Try.prog 3 [.v (.int .i64 n), .v (.int .u8 b)] H (IsR H (.v (.bool true))) := by
  obtain ⟨k, hk, hk0, hk5⟩ : ∃ k, b.tmod 6 = k ∧ 0 ≤ k ∧ k ≤ 5 := ⟨_, rfl, Int.tmod_nonneg _ h0, by have := Int.tmod_lt_of_pos b (b := 6) (by decide); omega⟩
  have hr := right_kn (k := k) (n := n) hk0 hk5
  refine UCall (n := 56) (H0 := H) (objs := []) Try.func3 (by kernel_rfl) rfl (by rw [Try.ntmps3]; rfl) .nil <| ?_
  refine Q.rg <| Q.as rfl <| Q.nt <| Q.rg <| Q.mv rfl <| Q.bi rfl rfl rfl <| US.conv rfl (by decide) rfl rfl (by rw [Try.underlying5]; rfl) Try.underlying3 rfl (r := k) (by rw [hk]; exact IntWalk.i64_in _ (by omega)) <| ?_
  refine Q.as rfl <| Q.nt <| Q.rg <| Q.mv rfl <| Q.bi rfl rfl rfl <| Q.as rfl <| Q.nt <| UW.seq <| Q.rg <| ?_
  by_cases lo : -9007199254740991 ≤ n
  · by_cases k1 : k = 1
    · have k2 : ¬ k = 2 := by omega
      refine Q.mv rfl <| US.bin_int rfl (by decide) rfl rfl rfl rfl (r := .bool true) (by (simp [iop, sop, k1]; done)) <| ?_
      refine Q.nt <| ?_
      refine UW.cond rfl (fun _ => ?_) (fun h => absurd h (by simp))
      refine UW.region <| ?_
      by_cases n0 : n = 0
      · refine Q.mv rfl <| US.bin_int rfl (by decide) rfl rfl rfl rfl (r := .bool true) (by (simp [iop, sop, n0]; done)) <| ?_
        refine Q.mv rfl <| Q.of <| Q.of <| Q.pk rfl rfl <| Q.as rfl <| US.eq (u' := .v (.bool (may k n))) (by simp [may, k1, n0]) <| ?_
        refine Q.nt <| UW.seq <| Q.rg <| Q.mv rfl <| US.bin_int rfl (by decide) rfl rfl rfl rfl (r := .bool false) (by (simp [iop, sop, k2]; done)) <| ?_
        refine Q.nt <| UW.cond rfl (fun h => absurd h (by simp)) fun _ => ?_
        refine UW.skip <| UQ.then <| Q.rg <| US.call_pure rfl (by decide) rfl rfl rfl rfl (fun _ => known_spec _) <| Q.mv rfl <| ?_
        (refine US.on rfl rfl (by decide) rfl ?_; refine US.move rfl (by decide) rfl rfl rfl ?_)
        (refine US.on rfl rfl (by decide) rfl ?_; refine US.move rfl (by decide) rfl rfl rfl ?_)
        (refine US.on rfl rfl (by decide) rfl ?_; refine US.buildN [0, 1] rfl (by decide) rfl rfl bt27 rfl rfl rfl rfl rfl rfl rfl rfl ?_)
        (refine US.on rfl rfl (by decide) rfl ?_; refine US.call_pure rfl (by decide) rfl rfl rfl rfl (fun _ => right_spec' (kn k n) (fits_kn k n) _ hr _) ?_)
        (refine US.on rfl rfl (by decide) rfl ?_; refine US.move rfl (by decide) rfl rfl rfl ?_)
        (refine US.on rfl rfl (by decide) rfl ?_; refine US.bool_eql rfl (by decide) rfl rfl Try.underlying4 rfl rfl ?_)
        refine US.eq (u' := .v (.bool true)) (by simp) <| ?_
        refine Q.pk rfl rfl <| Q.mv rfl <| ?_
        (refine US.on rfl rfl (by decide) rfl ?_; refine US.move rfl (by decide) rfl rfl rfl ?_)
        (refine US.on rfl rfl (by decide) rfl ?_; refine US.call_pure rfl (by decide) rfl rfl rfl rfl (fun _ => num_spec n _) ?_)
        (refine US.on rfl rfl (by decide) rfl ?_; refine US.field_cell rfl (by decide) rfl rfl rfl ft27_1 rfl ?_)
        (refine US.on rfl rfl (by decide) rfl ?_; refine US.move rfl (by decide) rfl rfl rfl ?_)
        (refine US.on rfl rfl (by decide) rfl ?_; refine US.bin_int rfl (by decide) rfl rfl rfl rfl (r := .bool true) (by simp [iop]) ?_)
        refine Q.pk rfl rfl <| Q.mv rfl <| ?_
        (refine US.on rfl rfl (by decide) rfl ?_; refine US.move rfl (by decide) rfl rfl rfl ?_)
        (refine US.on rfl rfl (by decide) rfl ?_; refine US.call_pure rfl (by decide) rfl rfl rfl rfl (fun _ => num_spec n _) ?_)
        (refine US.on rfl rfl (by decide) rfl ?_; refine US.call_pure rfl (by decide) rfl rfl rfl rfl (fun _ => right_spec' (numV n) (fits_num n) _ (num_right n) _) ?_)
        (refine US.on rfl rfl (by decide) rfl ?_; refine US.move rfl (by decide) rfl rfl rfl ?_)
        (refine US.on rfl rfl (by decide) rfl ?_; refine US.bin_int rfl (by decide) rfl rfl rfl rfl (r := .bool true) (by (simp [iop, sop, lo]; done)) ?_)
        (refine US.on rfl rfl (by decide) rfl ?_; refine US.move rfl (by decide) rfl rfl rfl ?_)
        (refine US.on rfl rfl (by decide) rfl ?_; refine US.move rfl (by decide) rfl rfl rfl ?_)
        (refine US.on rfl rfl (by decide) rfl ?_; refine US.bin_int rfl (by decide) rfl rfl rfl rfl rfl ?_)
        (refine US.on rfl rfl (by decide) rfl ?_; refine US.pick rfl (by decide) rfl rfl rfl rfl ?_)
        (refine US.on rfl rfl (by decide) rfl ?_; refine US.bool_eql rfl (by decide) rfl rfl Try.underlying4 rfl rfl ?_)
        refine US.eq (u' := .v (.bool true)) (by simp [lo]) <| ?_
        refine Q.pk rfl rfl <| Q.as rfl <| Q.nt <| UW.ret <| ?_
        exact retR [] (fun _ => res_tmp rfl rfl) (by simp) fun hd => ⟨rfl, rfl⟩
      · refine Q.mv rfl <| US.bin_int rfl (by decide) rfl rfl rfl rfl (r := .bool false) (by (simp [iop, sop, n0]; done)) <| ?_
        refine Q.mv rfl <| ?_
        (refine US.on rfl rfl (by decide) rfl ?_; refine US.move rfl (by decide) rfl rfl rfl ?_)
        (refine US.on rfl rfl (by decide) rfl ?_; refine US.bin_int rfl (by decide) rfl rfl rfl rfl rfl ?_)
        refine Q.pk rfl rfl <| Q.as rfl <| US.eq (u' := .v (.bool (may k n))) (by simp [may, k1, n0]) <| ?_
        refine Q.nt <| UW.seq <| Q.rg <| Q.mv rfl <| US.bin_int rfl (by decide) rfl rfl rfl rfl (r := .bool false) (by (simp [iop, sop, k2]; done)) <| ?_
        refine Q.nt <| UW.cond rfl (fun h => absurd h (by simp)) fun _ => ?_
        refine UW.skip <| UQ.then <| Q.rg <| US.call_pure rfl (by decide) rfl rfl rfl rfl (fun _ => known_spec _) <| Q.mv rfl <| ?_
        (refine US.on rfl rfl (by decide) rfl ?_; refine US.move rfl (by decide) rfl rfl rfl ?_)
        (refine US.on rfl rfl (by decide) rfl ?_; refine US.move rfl (by decide) rfl rfl rfl ?_)
        (refine US.on rfl rfl (by decide) rfl ?_; refine US.buildN [0, 1] rfl (by decide) rfl rfl bt27 rfl rfl rfl rfl rfl rfl rfl rfl ?_)
        (refine US.on rfl rfl (by decide) rfl ?_; refine US.call_pure rfl (by decide) rfl rfl rfl rfl (fun _ => right_spec' (kn k n) (fits_kn k n) _ hr _) ?_)
        (refine US.on rfl rfl (by decide) rfl ?_; refine US.move rfl (by decide) rfl rfl rfl ?_)
        (refine US.on rfl rfl (by decide) rfl ?_; refine US.bool_eql rfl (by decide) rfl rfl Try.underlying4 rfl rfl ?_)
        refine US.eq (u' := .v (.bool true)) (by simp) <| ?_
        refine Q.pk rfl rfl <| Q.mv rfl <| ?_
        (refine US.on rfl rfl (by decide) rfl ?_; refine US.move rfl (by decide) rfl rfl rfl ?_)
        (refine US.on rfl rfl (by decide) rfl ?_; refine US.call_pure rfl (by decide) rfl rfl rfl rfl (fun _ => num_spec n _) ?_)
        (refine US.on rfl rfl (by decide) rfl ?_; refine US.field_cell rfl (by decide) rfl rfl rfl ft27_1 rfl ?_)
        (refine US.on rfl rfl (by decide) rfl ?_; refine US.move rfl (by decide) rfl rfl rfl ?_)
        (refine US.on rfl rfl (by decide) rfl ?_; refine US.bin_int rfl (by decide) rfl rfl rfl rfl (r := .bool true) (by simp [iop]) ?_)
        refine Q.pk rfl rfl <| Q.mv rfl <| ?_
        (refine US.on rfl rfl (by decide) rfl ?_; refine US.move rfl (by decide) rfl rfl rfl ?_)
        (refine US.on rfl rfl (by decide) rfl ?_; refine US.call_pure rfl (by decide) rfl rfl rfl rfl (fun _ => num_spec n _) ?_)
        (refine US.on rfl rfl (by decide) rfl ?_; refine US.call_pure rfl (by decide) rfl rfl rfl rfl (fun _ => right_spec' (numV n) (fits_num n) _ (num_right n) _) ?_)
        (refine US.on rfl rfl (by decide) rfl ?_; refine US.move rfl (by decide) rfl rfl rfl ?_)
        (refine US.on rfl rfl (by decide) rfl ?_; refine US.bin_int rfl (by decide) rfl rfl rfl rfl (r := .bool true) (by (simp [iop, sop, lo]; done)) ?_)
        (refine US.on rfl rfl (by decide) rfl ?_; refine US.move rfl (by decide) rfl rfl rfl ?_)
        (refine US.on rfl rfl (by decide) rfl ?_; refine US.move rfl (by decide) rfl rfl rfl ?_)
        (refine US.on rfl rfl (by decide) rfl ?_; refine US.bin_int rfl (by decide) rfl rfl rfl rfl rfl ?_)
        (refine US.on rfl rfl (by decide) rfl ?_; refine US.pick rfl (by decide) rfl rfl rfl rfl ?_)
        (refine US.on rfl rfl (by decide) rfl ?_; refine US.bool_eql rfl (by decide) rfl rfl Try.underlying4 rfl rfl ?_)
        refine US.eq (u' := .v (.bool true)) (by simp [lo]) <| ?_
        refine Q.pk rfl rfl <| Q.as rfl <| Q.nt <| UW.ret <| ?_
        exact retR [] (fun _ => res_tmp rfl rfl) (by simp) fun hd => ⟨rfl, rfl⟩
    · refine Q.mv rfl <| US.bin_int rfl (by decide) rfl rfl rfl rfl (r := .bool false) (by (simp [iop, sop, k1]; done)) <| ?_
      refine Q.nt <| UW.cond rfl (fun h => absurd h (by simp)) fun _ => ?_
      refine UW.skip <| UQ.then <| UW.seq <| Q.rg <| ?_
      by_cases k2 : k = 2
      · refine Q.mv rfl <| US.bin_int rfl (by decide) rfl rfl rfl rfl (r := .bool true) (by (simp [iop, sop, k2]; done)) <| ?_
        refine Q.nt <| ?_
        refine UW.cond rfl (fun _ => ?_) (fun h => absurd h (by simp))
        refine UW.region <| Q.mv rfl <| US.bin_int rfl (by decide) rfl rfl rfl rfl (r := .bool true) (by (simp [iop, sop, lo]; done)) <| ?_
        refine Q.mv rfl <| ?_
        (refine US.on rfl rfl (by decide) rfl ?_; refine US.move rfl (by decide) rfl rfl rfl ?_)
        (refine US.on rfl rfl (by decide) rfl ?_; refine US.bin_int rfl (by decide) rfl rfl rfl rfl rfl ?_)
        refine Q.pk rfl rfl <| Q.as rfl <| US.eq (u' := .v (.bool (may k n))) (by simp [may, k2, lo]) <| ?_
        refine Q.nt <| Q.rg <| US.call_pure rfl (by decide) rfl rfl rfl rfl (fun _ => known_spec _) <| Q.mv rfl <| ?_
        (refine US.on rfl rfl (by decide) rfl ?_; refine US.move rfl (by decide) rfl rfl rfl ?_)
        (refine US.on rfl rfl (by decide) rfl ?_; refine US.move rfl (by decide) rfl rfl rfl ?_)
        (refine US.on rfl rfl (by decide) rfl ?_; refine US.buildN [0, 1] rfl (by decide) rfl rfl bt27 rfl rfl rfl rfl rfl rfl rfl rfl ?_)
        (refine US.on rfl rfl (by decide) rfl ?_; refine US.call_pure rfl (by decide) rfl rfl rfl rfl (fun _ => right_spec' (kn k n) (fits_kn k n) _ hr _) ?_)
        (refine US.on rfl rfl (by decide) rfl ?_; refine US.move rfl (by decide) rfl rfl rfl ?_)
        (refine US.on rfl rfl (by decide) rfl ?_; refine US.bool_eql rfl (by decide) rfl rfl Try.underlying4 rfl rfl ?_)
        refine US.eq (u' := .v (.bool true)) (by simp) <| ?_
        refine Q.pk rfl rfl <| Q.mv rfl <| ?_
        (refine US.on rfl rfl (by decide) rfl ?_; refine US.move rfl (by decide) rfl rfl rfl ?_)
        (refine US.on rfl rfl (by decide) rfl ?_; refine US.call_pure rfl (by decide) rfl rfl rfl rfl (fun _ => num_spec n _) ?_)
        (refine US.on rfl rfl (by decide) rfl ?_; refine US.field_cell rfl (by decide) rfl rfl rfl ft27_1 rfl ?_)
        (refine US.on rfl rfl (by decide) rfl ?_; refine US.move rfl (by decide) rfl rfl rfl ?_)
        (refine US.on rfl rfl (by decide) rfl ?_; refine US.bin_int rfl (by decide) rfl rfl rfl rfl (r := .bool true) (by simp [iop]) ?_)
        refine Q.pk rfl rfl <| Q.mv rfl <| ?_
        (refine US.on rfl rfl (by decide) rfl ?_; refine US.move rfl (by decide) rfl rfl rfl ?_)
        (refine US.on rfl rfl (by decide) rfl ?_; refine US.call_pure rfl (by decide) rfl rfl rfl rfl (fun _ => num_spec n _) ?_)
        (refine US.on rfl rfl (by decide) rfl ?_; refine US.call_pure rfl (by decide) rfl rfl rfl rfl (fun _ => right_spec' (numV n) (fits_num n) _ (num_right n) _) ?_)
        (refine US.on rfl rfl (by decide) rfl ?_; refine US.move rfl (by decide) rfl rfl rfl ?_)
        (refine US.on rfl rfl (by decide) rfl ?_; refine US.bin_int rfl (by decide) rfl rfl rfl rfl (r := .bool true) (by (simp [iop, sop, lo]; done)) ?_)
        (refine US.on rfl rfl (by decide) rfl ?_; refine US.move rfl (by decide) rfl rfl rfl ?_)
        (refine US.on rfl rfl (by decide) rfl ?_; refine US.move rfl (by decide) rfl rfl rfl ?_)
        (refine US.on rfl rfl (by decide) rfl ?_; refine US.bin_int rfl (by decide) rfl rfl rfl rfl rfl ?_)
        (refine US.on rfl rfl (by decide) rfl ?_; refine US.pick rfl (by decide) rfl rfl rfl rfl ?_)
        (refine US.on rfl rfl (by decide) rfl ?_; refine US.bool_eql rfl (by decide) rfl rfl Try.underlying4 rfl rfl ?_)
        refine US.eq (u' := .v (.bool true)) (by simp [lo]) <| ?_
        refine Q.pk rfl rfl <| Q.as rfl <| Q.nt <| UW.ret <| ?_
        exact retR [] (fun _ => res_tmp rfl rfl) (by simp) fun hd => ⟨rfl, rfl⟩
      · refine Q.mv rfl <| US.bin_int rfl (by decide) rfl rfl rfl rfl (r := .bool false) (by (simp [iop, sop, k2]; done)) <| ?_
        refine Q.nt <| UW.cond rfl (fun h => absurd h (by simp)) fun _ => ?_
        refine UW.keep [(6, .v (.bool (may k n))), (0, .v (.int .i64 n)), (5, .v (.int .i64 k))] [] ⟨?_, rfl, rfl, trivial⟩ (.refl _) ?_
        · rw [show may k n = (n == 0) from by simp [may, k1, k2]]; rfl
        refine UW.skip <| UQ.then <| Q.rg <| US.call_pure rfl (by decide) rfl rfl rfl rfl (fun _ => known_spec _) <| Q.mv rfl <| ?_
        (refine US.on rfl rfl (by decide) rfl ?_; refine US.move rfl (by decide) rfl rfl rfl ?_)
        (refine US.on rfl rfl (by decide) rfl ?_; refine US.move rfl (by decide) rfl rfl rfl ?_)
        (refine US.on rfl rfl (by decide) rfl ?_; refine US.buildN [0, 1] rfl (by decide) rfl rfl bt27 rfl rfl rfl rfl rfl rfl rfl rfl ?_)
        (refine US.on rfl rfl (by decide) rfl ?_; refine US.call_pure rfl (by decide) rfl rfl rfl rfl (fun _ => right_spec' (kn k n) (fits_kn k n) _ hr _) ?_)
        (refine US.on rfl rfl (by decide) rfl ?_; refine US.move rfl (by decide) rfl rfl rfl ?_)
        (refine US.on rfl rfl (by decide) rfl ?_; refine US.bool_eql rfl (by decide) rfl rfl Try.underlying4 rfl rfl ?_)
        refine US.eq (u' := .v (.bool true)) (by simp) <| ?_
        refine Q.pk rfl rfl <| Q.mv rfl <| ?_
        (refine US.on rfl rfl (by decide) rfl ?_; refine US.move rfl (by decide) rfl rfl rfl ?_)
        (refine US.on rfl rfl (by decide) rfl ?_; refine US.call_pure rfl (by decide) rfl rfl rfl rfl (fun _ => num_spec n _) ?_)
        (refine US.on rfl rfl (by decide) rfl ?_; refine US.field_cell rfl (by decide) rfl rfl rfl ft27_1 rfl ?_)
        (refine US.on rfl rfl (by decide) rfl ?_; refine US.move rfl (by decide) rfl rfl rfl ?_)
        (refine US.on rfl rfl (by decide) rfl ?_; refine US.bin_int rfl (by decide) rfl rfl rfl rfl (r := .bool true) (by simp [iop]) ?_)
        refine Q.pk rfl rfl <| Q.mv rfl <| ?_
        (refine US.on rfl rfl (by decide) rfl ?_; refine US.move rfl (by decide) rfl rfl rfl ?_)
        (refine US.on rfl rfl (by decide) rfl ?_; refine US.call_pure rfl (by decide) rfl rfl rfl rfl (fun _ => num_spec n _) ?_)
        (refine US.on rfl rfl (by decide) rfl ?_; refine US.call_pure rfl (by decide) rfl rfl rfl rfl (fun _ => right_spec' (numV n) (fits_num n) _ (num_right n) _) ?_)
        (refine US.on rfl rfl (by decide) rfl ?_; refine US.move rfl (by decide) rfl rfl rfl ?_)
        (refine US.on rfl rfl (by decide) rfl ?_; refine US.bin_int rfl (by decide) rfl rfl rfl rfl (r := .bool true) (by (simp [iop, sop, lo]; done)) ?_)
        (refine US.on rfl rfl (by decide) rfl ?_; refine US.move rfl (by decide) rfl rfl rfl ?_)
        (refine US.on rfl rfl (by decide) rfl ?_; refine US.move rfl (by decide) rfl rfl rfl ?_)
        (refine US.on rfl rfl (by decide) rfl ?_; refine US.bin_int rfl (by decide) rfl rfl rfl rfl rfl ?_)
        (refine US.on rfl rfl (by decide) rfl ?_; refine US.pick rfl (by decide) rfl rfl rfl rfl ?_)
        (refine US.on rfl rfl (by decide) rfl ?_; refine US.bool_eql rfl (by decide) rfl rfl Try.underlying4 rfl rfl ?_)
        refine US.eq (u' := .v (.bool true)) (by simp [lo]) <| ?_
        refine Q.pk rfl rfl <| Q.as rfl <| Q.nt <| UW.ret <| ?_
        exact retR [] (fun _ => res_tmp rfl rfl) (by simp) fun hd => ⟨rfl, rfl⟩
  · by_cases k1 : k = 1
    · have k2 : ¬ k = 2 := by omega
      refine Q.mv rfl <| US.bin_int rfl (by decide) rfl rfl rfl rfl (r := .bool true) (by (simp [iop, sop, k1]; done)) <| ?_
      refine Q.nt <| ?_
      refine UW.cond rfl (fun _ => ?_) (fun h => absurd h (by simp))
      refine UW.region <| ?_
      by_cases n0 : n = 0
      · refine Q.mv rfl <| US.bin_int rfl (by decide) rfl rfl rfl rfl (r := .bool true) (by (simp [iop, sop, n0]; done)) <| ?_
        refine Q.mv rfl <| Q.of <| Q.of <| Q.pk rfl rfl <| Q.as rfl <| US.eq (u' := .v (.bool (may k n))) (by simp [may, k1, n0]) <| ?_
        refine Q.nt <| UW.seq <| Q.rg <| Q.mv rfl <| US.bin_int rfl (by decide) rfl rfl rfl rfl (r := .bool false) (by (simp [iop, sop, k2]; done)) <| ?_
        refine Q.nt <| UW.cond rfl (fun h => absurd h (by simp)) fun _ => ?_
        refine UW.skip <| UQ.then <| Q.rg <| US.call_pure rfl (by decide) rfl rfl rfl rfl (fun _ => known_spec _) <| Q.mv rfl <| ?_
        (refine US.on rfl rfl (by decide) rfl ?_; refine US.move rfl (by decide) rfl rfl rfl ?_)
        (refine US.on rfl rfl (by decide) rfl ?_; refine US.move rfl (by decide) rfl rfl rfl ?_)
        (refine US.on rfl rfl (by decide) rfl ?_; refine US.buildN [0, 1] rfl (by decide) rfl rfl bt27 rfl rfl rfl rfl rfl rfl rfl rfl ?_)
        (refine US.on rfl rfl (by decide) rfl ?_; refine US.call_pure rfl (by decide) rfl rfl rfl rfl (fun _ => right_spec' (kn k n) (fits_kn k n) _ hr _) ?_)
        (refine US.on rfl rfl (by decide) rfl ?_; refine US.move rfl (by decide) rfl rfl rfl ?_)
        (refine US.on rfl rfl (by decide) rfl ?_; refine US.bool_eql rfl (by decide) rfl rfl Try.underlying4 rfl rfl ?_)
        refine US.eq (u' := .v (.bool true)) (by simp) <| ?_
        refine Q.pk rfl rfl <| Q.mv rfl <| ?_
        (refine US.on rfl rfl (by decide) rfl ?_; refine US.move rfl (by decide) rfl rfl rfl ?_)
        (refine US.on rfl rfl (by decide) rfl ?_; refine US.call_pure rfl (by decide) rfl rfl rfl rfl (fun _ => num_spec n _) ?_)
        (refine US.on rfl rfl (by decide) rfl ?_; refine US.field_cell rfl (by decide) rfl rfl rfl ft27_1 rfl ?_)
        (refine US.on rfl rfl (by decide) rfl ?_; refine US.move rfl (by decide) rfl rfl rfl ?_)
        (refine US.on rfl rfl (by decide) rfl ?_; refine US.bin_int rfl (by decide) rfl rfl rfl rfl (r := .bool true) (by simp [iop]) ?_)
        refine Q.pk rfl rfl <| Q.mv rfl <| ?_
        (refine US.on rfl rfl (by decide) rfl ?_; refine US.move rfl (by decide) rfl rfl rfl ?_)
        (refine US.on rfl rfl (by decide) rfl ?_; refine US.call_pure rfl (by decide) rfl rfl rfl rfl (fun _ => num_spec n _) ?_)
        (refine US.on rfl rfl (by decide) rfl ?_; refine US.call_pure rfl (by decide) rfl rfl rfl rfl (fun _ => right_spec' (numV n) (fits_num n) _ (num_right n) _) ?_)
        (refine US.on rfl rfl (by decide) rfl ?_; refine US.move rfl (by decide) rfl rfl rfl ?_)
        (refine US.on rfl rfl (by decide) rfl ?_; refine US.bin_int rfl (by decide) rfl rfl rfl rfl (r := .bool false) (by (simp [iop, sop, lo]; done)) ?_)
        (refine US.on rfl rfl (by decide) rfl ?_; refine US.move rfl (by decide) rfl rfl rfl ?_)
        refine Q.of <| Q.of <| ?_
        (refine US.on rfl rfl (by decide) rfl ?_; refine US.pick rfl (by decide) rfl rfl rfl rfl ?_)
        (refine US.on rfl rfl (by decide) rfl ?_; refine US.bool_eql rfl (by decide) rfl rfl Try.underlying4 rfl rfl ?_)
        refine US.eq (u' := .v (.bool true)) (by simp [lo]) <| ?_
        refine Q.pk rfl rfl <| Q.as rfl <| Q.nt <| UW.ret <| ?_
        exact retR [] (fun _ => res_tmp rfl rfl) (by simp) fun hd => ⟨rfl, rfl⟩
      · refine Q.mv rfl <| US.bin_int rfl (by decide) rfl rfl rfl rfl (r := .bool false) (by (simp [iop, sop, n0]; done)) <| ?_
        refine Q.mv rfl <| ?_
        (refine US.on rfl rfl (by decide) rfl ?_; refine US.move rfl (by decide) rfl rfl rfl ?_)
        (refine US.on rfl rfl (by decide) rfl ?_; refine US.bin_int rfl (by decide) rfl rfl rfl rfl rfl ?_)
        refine Q.pk rfl rfl <| Q.as rfl <| US.eq (u' := .v (.bool (may k n))) (by simp [may, k1, n0]) <| ?_
        refine Q.nt <| UW.seq <| Q.rg <| Q.mv rfl <| US.bin_int rfl (by decide) rfl rfl rfl rfl (r := .bool false) (by (simp [iop, sop, k2]; done)) <| ?_
        refine Q.nt <| UW.cond rfl (fun h => absurd h (by simp)) fun _ => ?_
        refine UW.skip <| UQ.then <| Q.rg <| US.call_pure rfl (by decide) rfl rfl rfl rfl (fun _ => known_spec _) <| Q.mv rfl <| ?_
        (refine US.on rfl rfl (by decide) rfl ?_; refine US.move rfl (by decide) rfl rfl rfl ?_)
        (refine US.on rfl rfl (by decide) rfl ?_; refine US.move rfl (by decide) rfl rfl rfl ?_)
        (refine US.on rfl rfl (by decide) rfl ?_; refine US.buildN [0, 1] rfl (by decide) rfl rfl bt27 rfl rfl rfl rfl rfl rfl rfl rfl ?_)
        (refine US.on rfl rfl (by decide) rfl ?_; refine US.call_pure rfl (by decide) rfl rfl rfl rfl (fun _ => right_spec' (kn k n) (fits_kn k n) _ hr _) ?_)
        (refine US.on rfl rfl (by decide) rfl ?_; refine US.move rfl (by decide) rfl rfl rfl ?_)
        (refine US.on rfl rfl (by decide) rfl ?_; refine US.bool_eql rfl (by decide) rfl rfl Try.underlying4 rfl rfl ?_)
        refine US.eq (u' := .v (.bool true)) (by simp) <| ?_
        refine Q.pk rfl rfl <| Q.mv rfl <| ?_
        (refine US.on rfl rfl (by decide) rfl ?_; refine US.move rfl (by decide) rfl rfl rfl ?_)
        (refine US.on rfl rfl (by decide) rfl ?_; refine US.call_pure rfl (by decide) rfl rfl rfl rfl (fun _ => num_spec n _) ?_)
        (refine US.on rfl rfl (by decide) rfl ?_; refine US.field_cell rfl (by decide) rfl rfl rfl ft27_1 rfl ?_)
        (refine US.on rfl rfl (by decide) rfl ?_; refine US.move rfl (by decide) rfl rfl rfl ?_)
        (refine US.on rfl rfl (by decide) rfl ?_; refine US.bin_int rfl (by decide) rfl rfl rfl rfl (r := .bool true) (by simp [iop]) ?_)
        refine Q.pk rfl rfl <| Q.mv rfl <| ?_
        (refine US.on rfl rfl (by decide) rfl ?_; refine US.move rfl (by decide) rfl rfl rfl ?_)
        (refine US.on rfl rfl (by decide) rfl ?_; refine US.call_pure rfl (by decide) rfl rfl rfl rfl (fun _ => num_spec n _) ?_)
        (refine US.on rfl rfl (by decide) rfl ?_; refine US.call_pure rfl (by decide) rfl rfl rfl rfl (fun _ => right_spec' (numV n) (fits_num n) _ (num_right n) _) ?_)
        (refine US.on rfl rfl (by decide) rfl ?_; refine US.move rfl (by decide) rfl rfl rfl ?_)
        (refine US.on rfl rfl (by decide) rfl ?_; refine US.bin_int rfl (by decide) rfl rfl rfl rfl (r := .bool false) (by (simp [iop, sop, lo]; done)) ?_)
        (refine US.on rfl rfl (by decide) rfl ?_; refine US.move rfl (by decide) rfl rfl rfl ?_)
        refine Q.of <| Q.of <| ?_
        (refine US.on rfl rfl (by decide) rfl ?_; refine US.pick rfl (by decide) rfl rfl rfl rfl ?_)
        (refine US.on rfl rfl (by decide) rfl ?_; refine US.bool_eql rfl (by decide) rfl rfl Try.underlying4 rfl rfl ?_)
        refine US.eq (u' := .v (.bool true)) (by simp [lo]) <| ?_
        refine Q.pk rfl rfl <| Q.as rfl <| Q.nt <| UW.ret <| ?_
        exact retR [] (fun _ => res_tmp rfl rfl) (by simp) fun hd => ⟨rfl, rfl⟩
    · refine Q.mv rfl <| US.bin_int rfl (by decide) rfl rfl rfl rfl (r := .bool false) (by (simp [iop, sop, k1]; done)) <| ?_
      refine Q.nt <| UW.cond rfl (fun h => absurd h (by simp)) fun _ => ?_
      refine UW.skip <| UQ.then <| UW.seq <| Q.rg <| ?_
      by_cases k2 : k = 2
      · refine Q.mv rfl <| US.bin_int rfl (by decide) rfl rfl rfl rfl (r := .bool true) (by (simp [iop, sop, k2]; done)) <| ?_
        refine Q.nt <| ?_
        refine UW.cond rfl (fun _ => ?_) (fun h => absurd h (by simp))
        refine UW.region <| Q.mv rfl <| US.bin_int rfl (by decide) rfl rfl rfl rfl (r := .bool false) (by (simp [iop, sop, lo]; done)) <| ?_
        refine Q.mv rfl <| Q.of <| Q.of <| Q.pk rfl rfl <| Q.as rfl <| US.eq (u' := .v (.bool (may k n))) (by simp [may, k2, lo]) <| ?_
        refine Q.nt <| Q.rg <| US.call_pure rfl (by decide) rfl rfl rfl rfl (fun _ => known_spec _) <| Q.mv rfl <| ?_
        (refine US.on rfl rfl (by decide) rfl ?_; refine US.move rfl (by decide) rfl rfl rfl ?_)
        (refine US.on rfl rfl (by decide) rfl ?_; refine US.move rfl (by decide) rfl rfl rfl ?_)
        (refine US.on rfl rfl (by decide) rfl ?_; refine US.buildN [0, 1] rfl (by decide) rfl rfl bt27 rfl rfl rfl rfl rfl rfl rfl rfl ?_)
        (refine US.on rfl rfl (by decide) rfl ?_; refine US.call_pure rfl (by decide) rfl rfl rfl rfl (fun _ => right_spec' (kn k n) (fits_kn k n) _ hr _) ?_)
        (refine US.on rfl rfl (by decide) rfl ?_; refine US.move rfl (by decide) rfl rfl rfl ?_)
        (refine US.on rfl rfl (by decide) rfl ?_; refine US.bool_eql rfl (by decide) rfl rfl Try.underlying4 rfl rfl ?_)
        refine US.eq (u' := .v (.bool true)) (by simp) <| ?_
        refine Q.pk rfl rfl <| Q.mv rfl <| ?_
        (refine US.on rfl rfl (by decide) rfl ?_; refine US.move rfl (by decide) rfl rfl rfl ?_)
        (refine US.on rfl rfl (by decide) rfl ?_; refine US.call_pure rfl (by decide) rfl rfl rfl rfl (fun _ => num_spec n _) ?_)
        (refine US.on rfl rfl (by decide) rfl ?_; refine US.field_cell rfl (by decide) rfl rfl rfl ft27_1 rfl ?_)
        (refine US.on rfl rfl (by decide) rfl ?_; refine US.move rfl (by decide) rfl rfl rfl ?_)
        (refine US.on rfl rfl (by decide) rfl ?_; refine US.bin_int rfl (by decide) rfl rfl rfl rfl (r := .bool true) (by simp [iop]) ?_)
        refine Q.pk rfl rfl <| Q.mv rfl <| ?_
        (refine US.on rfl rfl (by decide) rfl ?_; refine US.move rfl (by decide) rfl rfl rfl ?_)
        (refine US.on rfl rfl (by decide) rfl ?_; refine US.call_pure rfl (by decide) rfl rfl rfl rfl (fun _ => num_spec n _) ?_)
        (refine US.on rfl rfl (by decide) rfl ?_; refine US.call_pure rfl (by decide) rfl rfl rfl rfl (fun _ => right_spec' (numV n) (fits_num n) _ (num_right n) _) ?_)
        (refine US.on rfl rfl (by decide) rfl ?_; refine US.move rfl (by decide) rfl rfl rfl ?_)
        (refine US.on rfl rfl (by decide) rfl ?_; refine US.bin_int rfl (by decide) rfl rfl rfl rfl (r := .bool false) (by (simp [iop, sop, lo]; done)) ?_)
        (refine US.on rfl rfl (by decide) rfl ?_; refine US.move rfl (by decide) rfl rfl rfl ?_)
        refine Q.of <| Q.of <| ?_
        (refine US.on rfl rfl (by decide) rfl ?_; refine US.pick rfl (by decide) rfl rfl rfl rfl ?_)
        (refine US.on rfl rfl (by decide) rfl ?_; refine US.bool_eql rfl (by decide) rfl rfl Try.underlying4 rfl rfl ?_)
        refine US.eq (u' := .v (.bool true)) (by simp [lo]) <| ?_
        refine Q.pk rfl rfl <| Q.as rfl <| Q.nt <| UW.ret <| ?_
        exact retR [] (fun _ => res_tmp rfl rfl) (by simp) fun hd => ⟨rfl, rfl⟩
      · refine Q.mv rfl <| US.bin_int rfl (by decide) rfl rfl rfl rfl (r := .bool false) (by (simp [iop, sop, k2]; done)) <| ?_
        refine Q.nt <| UW.cond rfl (fun h => absurd h (by simp)) fun _ => ?_
        refine UW.keep [(6, .v (.bool (may k n))), (0, .v (.int .i64 n)), (5, .v (.int .i64 k))] [] ⟨?_, rfl, rfl, trivial⟩ (.refl _) ?_
        · rw [show may k n = (n == 0) from by simp [may, k1, k2]]; rfl
        refine UW.skip <| UQ.then <| Q.rg <| US.call_pure rfl (by decide) rfl rfl rfl rfl (fun _ => known_spec _) <| Q.mv rfl <| ?_
        (refine US.on rfl rfl (by decide) rfl ?_; refine US.move rfl (by decide) rfl rfl rfl ?_)
        (refine US.on rfl rfl (by decide) rfl ?_; refine US.move rfl (by decide) rfl rfl rfl ?_)
        (refine US.on rfl rfl (by decide) rfl ?_; refine US.buildN [0, 1] rfl (by decide) rfl rfl bt27 rfl rfl rfl rfl rfl rfl rfl rfl ?_)
        (refine US.on rfl rfl (by decide) rfl ?_; refine US.call_pure rfl (by decide) rfl rfl rfl rfl (fun _ => right_spec' (kn k n) (fits_kn k n) _ hr _) ?_)
        (refine US.on rfl rfl (by decide) rfl ?_; refine US.move rfl (by decide) rfl rfl rfl ?_)
        (refine US.on rfl rfl (by decide) rfl ?_; refine US.bool_eql rfl (by decide) rfl rfl Try.underlying4 rfl rfl ?_)
        refine US.eq (u' := .v (.bool true)) (by simp) <| ?_
        refine Q.pk rfl rfl <| Q.mv rfl <| ?_
        (refine US.on rfl rfl (by decide) rfl ?_; refine US.move rfl (by decide) rfl rfl rfl ?_)
        (refine US.on rfl rfl (by decide) rfl ?_; refine US.call_pure rfl (by decide) rfl rfl rfl rfl (fun _ => num_spec n _) ?_)
        (refine US.on rfl rfl (by decide) rfl ?_; refine US.field_cell rfl (by decide) rfl rfl rfl ft27_1 rfl ?_)
        (refine US.on rfl rfl (by decide) rfl ?_; refine US.move rfl (by decide) rfl rfl rfl ?_)
        (refine US.on rfl rfl (by decide) rfl ?_; refine US.bin_int rfl (by decide) rfl rfl rfl rfl (r := .bool true) (by simp [iop]) ?_)
        refine Q.pk rfl rfl <| Q.mv rfl <| ?_
        (refine US.on rfl rfl (by decide) rfl ?_; refine US.move rfl (by decide) rfl rfl rfl ?_)
        (refine US.on rfl rfl (by decide) rfl ?_; refine US.call_pure rfl (by decide) rfl rfl rfl rfl (fun _ => num_spec n _) ?_)
        (refine US.on rfl rfl (by decide) rfl ?_; refine US.call_pure rfl (by decide) rfl rfl rfl rfl (fun _ => right_spec' (numV n) (fits_num n) _ (num_right n) _) ?_)
        (refine US.on rfl rfl (by decide) rfl ?_; refine US.move rfl (by decide) rfl rfl rfl ?_)
        (refine US.on rfl rfl (by decide) rfl ?_; refine US.bin_int rfl (by decide) rfl rfl rfl rfl (r := .bool false) (by (simp [iop, sop, lo]; done)) ?_)
        (refine US.on rfl rfl (by decide) rfl ?_; refine US.move rfl (by decide) rfl rfl rfl ?_)
        refine Q.of <| Q.of <| ?_
        (refine US.on rfl rfl (by decide) rfl ?_; refine US.pick rfl (by decide) rfl rfl rfl rfl ?_)
        (refine US.on rfl rfl (by decide) rfl ?_; refine US.bool_eql rfl (by decide) rfl rfl Try.underlying4 rfl rfl ?_)
        refine US.eq (u' := .v (.bool true)) (by simp [lo]) <| ?_
        refine Q.pk rfl rfl <| Q.as rfl <| Q.nt <| UW.ret <| ?_
        exact retR [] (fun _ => res_tmp rfl rfl) (by simp) fun hd => ⟨rfl, rfl⟩
end Go.Proofs.Ytopaddebalfoeaa
