/- Numbers that are right. -/
import Derived.Test.YtopaddebalfoeaaV8
namespace Go.Proofs.Ytopaddebalfoeaa
open Go Go.RowKit Go.Eng
set_option linter.unusedSimpArgs false
set_option linter.unusedVariables false
theorem right_spec' (x : V) (hx : Fits x) (b : Bool) (hb : rightV x = b) (H : Hp) : ACall Try.prog 12 [.agg (encV x)] H (IsR H (.v (.bool b))) := by rw [← hb]; exact right_spec x hx H
/-- A value of a kind and a number alone. -/
def kn (k n : Int) : V := .mk k n ⟨#[]⟩ [] []
theorem fits_kn (k n : Int) : Fits (kn k n) := .mk _ _ _ _ _ (by decide) (by decide) (by simp)
/-- The number that may stand in a value of that kind. -/
def may (k n : Int) : Bool := if k = 1 then (n == 0 || n == 1) else if k = 2 then (decide (-9007199254740991 ≤ n) && decide (n ≤ 9007199254740991)) else (n == 0)
theorem right_kn {k n : Int} (h0 : 0 ≤ k) (h5 : k ≤ 5) : rightV (kn k n) = may k n := by
  have e : ((ByteArray.mk #[]).toList == (ByteArray.mk #[]).toList) = true := by simp
  have e2 : keyedV (kn k n) = true := by
    unfold keyedV
    by_cases hk : (kn k n).k = 5
    · rw [if_pos hk]; rfl
    · rw [if_neg hk]; rfl
  unfold kn at e2 ⊢
  rw [rightV, e2, e, decide_eq_true h0, decide_eq_true h5]
  have : rightsV [] = true := rfl
  rw [this]
  simp [numberV, may, V.k, V.n] <;> rfl
theorem num_right (n : Int) : rightV (numV n) = (decide (-9007199254740991 ≤ n) && decide (n ≤ 9007199254740991)) := right_kn (k := 2) (by decide) (by decide)
theorem numbers_spec (n b : Int) (h0 : 0 ≤ b) (h1 : b ≤ 255) (H : Hp) : ACall Try.prog 3 [.v (.int .i64 n), .v (.int .u8 b)] H (IsR H (.v (.bool true))) := by
  obtain ⟨k, hk, hk0, hk5⟩ : ∃ k, b.tmod 6 = k ∧ 0 ≤ k ∧ k ≤ 5 := ⟨_, rfl, Int.tmod_nonneg _ h0, by have := Int.tmod_lt_of_pos b (b := 6) (by decide); omega⟩
  have hr := right_kn (k := k) (n := n) hk0 hk5
  refine UCall (n := 56) (H0 := H) (objs := []) Try.func3 (by kernel_rfl) rfl (by rw [Try.ntmps3]; rfl) .nil ?_
  repeat (with_reducible first | refine UW.seq ?_ | refine UW.block ?_ | refine UQ.then ?_ | refine UQ.blockN ?_ | refine UW.skip ?_ | refine UW.exit ?_ | refine UQ.pass ?_ | refine UQ.here ?_ | refine UQ.out (by decide) ?_ | refine UW.ret ?_ | refine UQ.passR ?_ | refine UQ.blockR ?_ | refine UW.region ?_)
  refine US.assign rfl (by decide) rfl rfl rfl ?_
  refine US.nil ?_
  repeat (with_reducible first | refine UW.seq ?_ | refine UW.block ?_ | refine UQ.then ?_ | refine UQ.blockN ?_ | refine UW.skip ?_ | refine UW.exit ?_ | refine UQ.pass ?_ | refine UQ.here ?_ | refine UQ.out (by decide) ?_ | refine UW.ret ?_ | refine UQ.passR ?_ | refine UQ.blockR ?_ | refine UW.region ?_)
  refine US.move rfl (by decide) rfl rfl rfl ?_
  refine US.bin_int rfl (by decide) rfl rfl rfl rfl rfl ?_
  refine US.conv rfl (by decide) rfl rfl (by rw [Try.underlying5]; rfl) Try.underlying3 rfl (r := k) (by rw [hk]; exact IntWalk.i64_in _ (by omega)) ?_
  refine US.assign rfl (by decide) rfl rfl rfl ?_
  refine US.nil ?_
  repeat (with_reducible first | refine UW.seq ?_ | refine UW.block ?_ | refine UQ.then ?_ | refine UQ.blockN ?_ | refine UW.skip ?_ | refine UW.exit ?_ | refine UQ.pass ?_ | refine UQ.here ?_ | refine UQ.out (by decide) ?_ | refine UW.ret ?_ | refine UQ.passR ?_ | refine UQ.blockR ?_ | refine UW.region ?_)
  refine US.move rfl (by decide) rfl rfl rfl ?_
  refine US.bin_int rfl (by decide) rfl rfl rfl rfl rfl ?_
  refine US.assign rfl (by decide) rfl rfl rfl ?_
  refine US.nil ?_
  repeat (with_reducible first | refine UW.seq ?_ | refine UW.block ?_ | refine UQ.then ?_ | refine UQ.blockN ?_ | refine UW.skip ?_ | refine UW.exit ?_ | refine UQ.pass ?_ | refine UQ.here ?_ | refine UQ.out (by decide) ?_ | refine UW.ret ?_ | refine UQ.passR ?_ | refine UQ.blockR ?_ | refine UW.region ?_)
  by_cases lo : -9007199254740991 ≤ n
  · by_cases k1 : k = 1
    · have k2 : ¬ k = 2 := by omega
      refine US.move rfl (by decide) rfl rfl rfl ?_
      refine US.bin_int rfl (by decide) rfl rfl rfl rfl (r := .bool true) (by first | (simp [iop, sop, k1]; done) | (simp [iop, sop]; omega) | exact congrArg (fun b => some (Value.bool b)) (decide_eq_true k1)) ?_
      refine US.nil ?_
      repeat (with_reducible first | refine UW.seq ?_ | refine UW.block ?_ | refine UQ.then ?_ | refine UQ.blockN ?_ | refine UW.skip ?_ | refine UW.exit ?_ | refine UQ.pass ?_ | refine UQ.here ?_ | refine UQ.out (by decide) ?_ | refine UW.ret ?_ | refine UQ.passR ?_ | refine UQ.blockR ?_ | refine UW.region ?_)
      refine UW.cond rfl (fun _ => ?_) (fun h => absurd h (by simp))
      repeat (with_reducible first | refine UW.seq ?_ | refine UW.block ?_ | refine UQ.then ?_ | refine UQ.blockN ?_ | refine UW.skip ?_ | refine UW.exit ?_ | refine UQ.pass ?_ | refine UQ.here ?_ | refine UQ.out (by decide) ?_ | refine UW.ret ?_ | refine UQ.passR ?_ | refine UQ.blockR ?_ | refine UW.region ?_)
      by_cases n0 : n = 0
      · refine US.move rfl (by decide) rfl rfl rfl ?_
        refine US.bin_int rfl (by decide) rfl rfl rfl rfl (r := .bool true) (by first | (simp [iop, sop, n0]; done) | (simp [iop, sop]; omega) | exact congrArg (fun b => some (Value.bool b)) (decide_eq_true n0)) ?_
        refine US.move rfl (by decide) rfl rfl rfl ?_
        first | refine US.goff rfl (by decide) rfl rfl rfl rfl ?_ | refine US.goff2 rfl (by decide) rfl rfl rfl ?_ | (refine US.on rfl rfl (by decide) rfl ?_; refine US.move rfl (by decide) rfl rfl rfl ?_)
        first | refine US.goff rfl (by decide) rfl rfl rfl rfl ?_ | refine US.goff2 rfl (by decide) rfl rfl rfl ?_ | (refine US.on rfl rfl (by decide) rfl ?_; refine US.bin_int rfl (by decide) rfl rfl rfl rfl rfl ?_)
        refine US.pick rfl (by decide) rfl rfl rfl rfl ?_
        refine US.assign rfl (by decide) rfl rfl rfl ?_
        refine US.eq (u' := .v (.bool (may k n))) (by simp [may, k1, n0]) ?_
        refine US.nil ?_
        repeat (with_reducible first | refine UW.seq ?_ | refine UW.block ?_ | refine UQ.then ?_ | refine UQ.blockN ?_ | refine UW.skip ?_ | refine UW.exit ?_ | refine UQ.pass ?_ | refine UQ.here ?_ | refine UQ.out (by decide) ?_ | refine UW.ret ?_ | refine UQ.passR ?_ | refine UQ.blockR ?_ | refine UW.region ?_)
        refine US.move rfl (by decide) rfl rfl rfl ?_
        refine US.bin_int rfl (by decide) rfl rfl rfl rfl (r := .bool false) (by first | (simp [iop, sop, k2]; done) | (simp [iop, sop]; omega) | exact congrArg (fun b => some (Value.bool b)) (decide_eq_false k2)) ?_
        refine US.nil ?_
        repeat (with_reducible first | refine UW.seq ?_ | refine UW.block ?_ | refine UQ.then ?_ | refine UQ.blockN ?_ | refine UW.skip ?_ | refine UW.exit ?_ | refine UQ.pass ?_ | refine UQ.here ?_ | refine UQ.out (by decide) ?_ | refine UW.ret ?_ | refine UQ.passR ?_ | refine UQ.blockR ?_ | refine UW.region ?_)
        refine UW.cond rfl (fun h => absurd h (by simp)) (fun _ => ?_)
        repeat (with_reducible first | refine UW.seq ?_ | refine UW.block ?_ | refine UQ.then ?_ | refine UQ.blockN ?_ | refine UW.skip ?_ | refine UW.exit ?_ | refine UQ.pass ?_ | refine UQ.here ?_ | refine UQ.out (by decide) ?_ | refine UW.ret ?_ | refine UQ.passR ?_ | refine UQ.blockR ?_ | refine UW.region ?_)
        refine US.call_pure rfl (by decide) rfl rfl rfl rfl (fun _ => known_spec _) ?_
        refine US.move rfl (by decide) rfl rfl rfl ?_
        first | refine US.goff rfl (by decide) rfl rfl rfl rfl ?_ | refine US.goff2 rfl (by decide) rfl rfl rfl ?_ | (refine US.on rfl rfl (by decide) rfl ?_; refine US.move rfl (by decide) rfl rfl rfl ?_)
        first | refine US.goff rfl (by decide) rfl rfl rfl rfl ?_ | refine US.goff2 rfl (by decide) rfl rfl rfl ?_ | (refine US.on rfl rfl (by decide) rfl ?_; refine US.move rfl (by decide) rfl rfl rfl ?_)
        first | refine US.goff rfl (by decide) rfl rfl rfl rfl ?_ | refine US.goff2 rfl (by decide) rfl rfl rfl ?_ | (refine US.on rfl rfl (by decide) rfl ?_; refine US.buildN [0, 1] rfl (by decide) rfl rfl bt27 rfl rfl rfl rfl rfl rfl rfl rfl ?_)
        first | refine US.goff rfl (by decide) rfl rfl rfl rfl ?_ | refine US.goff2 rfl (by decide) rfl rfl rfl ?_ | (refine US.on rfl rfl (by decide) rfl ?_; refine US.call_pure rfl (by decide) rfl rfl rfl rfl (fun _ => right_spec' (kn k n) (fits_kn k n) _ hr _) ?_)
        first | refine US.goff rfl (by decide) rfl rfl rfl rfl ?_ | refine US.goff2 rfl (by decide) rfl rfl rfl ?_ | (refine US.on rfl rfl (by decide) rfl ?_; refine US.move rfl (by decide) rfl rfl rfl ?_)
        first | refine US.goff rfl (by decide) rfl rfl rfl rfl ?_ | refine US.goff2 rfl (by decide) rfl rfl rfl ?_ | (refine US.on rfl rfl (by decide) rfl ?_; refine US.bool_eql rfl (by decide) rfl rfl Try.underlying4 rfl rfl ?_)
        refine US.eq (u' := .v (.bool true)) (by simp) ?_
        refine US.pick rfl (by decide) rfl rfl rfl rfl ?_
        refine US.move rfl (by decide) rfl rfl rfl ?_
        first | refine US.goff rfl (by decide) rfl rfl rfl rfl ?_ | refine US.goff2 rfl (by decide) rfl rfl rfl ?_ | (refine US.on rfl rfl (by decide) rfl ?_; refine US.move rfl (by decide) rfl rfl rfl ?_)
        first | refine US.goff rfl (by decide) rfl rfl rfl rfl ?_ | refine US.goff2 rfl (by decide) rfl rfl rfl ?_ | (refine US.on rfl rfl (by decide) rfl ?_; refine US.call_pure rfl (by decide) rfl rfl rfl rfl (fun _ => num_spec n _) ?_)
        first | refine US.goff rfl (by decide) rfl rfl rfl rfl ?_ | refine US.goff2 rfl (by decide) rfl rfl rfl ?_ | (refine US.on rfl rfl (by decide) rfl ?_; first | refine US.field_cell rfl (by decide) rfl rfl rfl ft27_1 rfl ?_ | refine US.field_agg rfl (by decide) rfl rfl rfl ft27_1 rfl ?_)
        first | refine US.goff rfl (by decide) rfl rfl rfl rfl ?_ | refine US.goff2 rfl (by decide) rfl rfl rfl ?_ | (refine US.on rfl rfl (by decide) rfl ?_; refine US.move rfl (by decide) rfl rfl rfl ?_)
        first | refine US.goff rfl (by decide) rfl rfl rfl rfl ?_ | refine US.goff2 rfl (by decide) rfl rfl rfl ?_ | (refine US.on rfl rfl (by decide) rfl ?_; refine US.bin_int rfl (by decide) rfl rfl rfl rfl (r := .bool true) (by simp [iop]) ?_)
        refine US.pick rfl (by decide) rfl rfl rfl rfl ?_
        refine US.move rfl (by decide) rfl rfl rfl ?_
        first | refine US.goff rfl (by decide) rfl rfl rfl rfl ?_ | refine US.goff2 rfl (by decide) rfl rfl rfl ?_ | (refine US.on rfl rfl (by decide) rfl ?_; refine US.move rfl (by decide) rfl rfl rfl ?_)
        first | refine US.goff rfl (by decide) rfl rfl rfl rfl ?_ | refine US.goff2 rfl (by decide) rfl rfl rfl ?_ | (refine US.on rfl rfl (by decide) rfl ?_; refine US.call_pure rfl (by decide) rfl rfl rfl rfl (fun _ => num_spec n _) ?_)
        first | refine US.goff rfl (by decide) rfl rfl rfl rfl ?_ | refine US.goff2 rfl (by decide) rfl rfl rfl ?_ | (refine US.on rfl rfl (by decide) rfl ?_; refine US.call_pure rfl (by decide) rfl rfl rfl rfl (fun _ => right_spec' (numV n) (fits_num n) _ (num_right n) _) ?_)
        first | refine US.goff rfl (by decide) rfl rfl rfl rfl ?_ | refine US.goff2 rfl (by decide) rfl rfl rfl ?_ | (refine US.on rfl rfl (by decide) rfl ?_; refine US.move rfl (by decide) rfl rfl rfl ?_)
        first | refine US.goff rfl (by decide) rfl rfl rfl rfl ?_ | refine US.goff2 rfl (by decide) rfl rfl rfl ?_ | (refine US.on rfl rfl (by decide) rfl ?_; refine US.bin_int rfl (by decide) rfl rfl rfl rfl (r := .bool true) (by first | (simp [iop, sop, lo]; done) | (simp [iop, sop]; omega) | exact congrArg (fun b => some (Value.bool b)) (decide_eq_true lo)) ?_)
        first | refine US.goff rfl (by decide) rfl rfl rfl rfl ?_ | refine US.goff2 rfl (by decide) rfl rfl rfl ?_ | (refine US.on rfl rfl (by decide) rfl ?_; refine US.move rfl (by decide) rfl rfl rfl ?_)
        first | refine US.goff rfl (by decide) rfl rfl rfl rfl ?_ | refine US.goff2 rfl (by decide) rfl rfl rfl ?_ | (refine US.on rfl rfl (by decide) rfl ?_; refine US.move rfl (by decide) rfl rfl rfl ?_)
        first | refine US.goff rfl (by decide) rfl rfl rfl rfl ?_ | refine US.goff2 rfl (by decide) rfl rfl rfl ?_ | (refine US.on rfl rfl (by decide) rfl ?_; refine US.bin_int rfl (by decide) rfl rfl rfl rfl rfl ?_)
        first | refine US.goff rfl (by decide) rfl rfl rfl rfl ?_ | refine US.goff2 rfl (by decide) rfl rfl rfl ?_ | (refine US.on rfl rfl (by decide) rfl ?_; refine US.pick rfl (by decide) rfl rfl rfl rfl ?_)
        first | refine US.goff rfl (by decide) rfl rfl rfl rfl ?_ | refine US.goff2 rfl (by decide) rfl rfl rfl ?_ | (refine US.on rfl rfl (by decide) rfl ?_; refine US.bool_eql rfl (by decide) rfl rfl Try.underlying4 rfl rfl ?_)
        refine US.eq (u' := .v (.bool true)) (by simp [lo]) ?_
        refine US.pick rfl (by decide) rfl rfl rfl rfl ?_
        refine US.assign rfl (by decide) rfl rfl rfl ?_
        refine US.nil ?_
        repeat (with_reducible first | refine UW.seq ?_ | refine UW.block ?_ | refine UQ.then ?_ | refine UQ.blockN ?_ | refine UW.skip ?_ | refine UW.exit ?_ | refine UQ.pass ?_ | refine UQ.here ?_ | refine UQ.out (by decide) ?_ | refine UW.ret ?_ | refine UQ.passR ?_ | refine UQ.blockR ?_ | refine UW.region ?_)
        exact retR [] (fun _ => res_tmp rfl rfl) (by simp) fun hd => ⟨rfl, rfl⟩
      · refine US.move rfl (by decide) rfl rfl rfl ?_
        refine US.bin_int rfl (by decide) rfl rfl rfl rfl (r := .bool false) (by first | (simp [iop, sop, n0]; done) | (simp [iop, sop]; omega) | exact congrArg (fun b => some (Value.bool b)) (decide_eq_false n0)) ?_
        refine US.move rfl (by decide) rfl rfl rfl ?_
        first | refine US.goff rfl (by decide) rfl rfl rfl rfl ?_ | refine US.goff2 rfl (by decide) rfl rfl rfl ?_ | (refine US.on rfl rfl (by decide) rfl ?_; refine US.move rfl (by decide) rfl rfl rfl ?_)
        first | refine US.goff rfl (by decide) rfl rfl rfl rfl ?_ | refine US.goff2 rfl (by decide) rfl rfl rfl ?_ | (refine US.on rfl rfl (by decide) rfl ?_; refine US.bin_int rfl (by decide) rfl rfl rfl rfl rfl ?_)
        refine US.pick rfl (by decide) rfl rfl rfl rfl ?_
        refine US.assign rfl (by decide) rfl rfl rfl ?_
        refine US.eq (u' := .v (.bool (may k n))) (by simp [may, k1, n0]) ?_
        refine US.nil ?_
        repeat (with_reducible first | refine UW.seq ?_ | refine UW.block ?_ | refine UQ.then ?_ | refine UQ.blockN ?_ | refine UW.skip ?_ | refine UW.exit ?_ | refine UQ.pass ?_ | refine UQ.here ?_ | refine UQ.out (by decide) ?_ | refine UW.ret ?_ | refine UQ.passR ?_ | refine UQ.blockR ?_ | refine UW.region ?_)
        refine US.move rfl (by decide) rfl rfl rfl ?_
        refine US.bin_int rfl (by decide) rfl rfl rfl rfl (r := .bool false) (by first | (simp [iop, sop, k2]; done) | (simp [iop, sop]; omega) | exact congrArg (fun b => some (Value.bool b)) (decide_eq_false k2)) ?_
        refine US.nil ?_
        repeat (with_reducible first | refine UW.seq ?_ | refine UW.block ?_ | refine UQ.then ?_ | refine UQ.blockN ?_ | refine UW.skip ?_ | refine UW.exit ?_ | refine UQ.pass ?_ | refine UQ.here ?_ | refine UQ.out (by decide) ?_ | refine UW.ret ?_ | refine UQ.passR ?_ | refine UQ.blockR ?_ | refine UW.region ?_)
        refine UW.cond rfl (fun h => absurd h (by simp)) (fun _ => ?_)
        repeat (with_reducible first | refine UW.seq ?_ | refine UW.block ?_ | refine UQ.then ?_ | refine UQ.blockN ?_ | refine UW.skip ?_ | refine UW.exit ?_ | refine UQ.pass ?_ | refine UQ.here ?_ | refine UQ.out (by decide) ?_ | refine UW.ret ?_ | refine UQ.passR ?_ | refine UQ.blockR ?_ | refine UW.region ?_)
        refine US.call_pure rfl (by decide) rfl rfl rfl rfl (fun _ => known_spec _) ?_
        refine US.move rfl (by decide) rfl rfl rfl ?_
        first | refine US.goff rfl (by decide) rfl rfl rfl rfl ?_ | refine US.goff2 rfl (by decide) rfl rfl rfl ?_ | (refine US.on rfl rfl (by decide) rfl ?_; refine US.move rfl (by decide) rfl rfl rfl ?_)
        first | refine US.goff rfl (by decide) rfl rfl rfl rfl ?_ | refine US.goff2 rfl (by decide) rfl rfl rfl ?_ | (refine US.on rfl rfl (by decide) rfl ?_; refine US.move rfl (by decide) rfl rfl rfl ?_)
        first | refine US.goff rfl (by decide) rfl rfl rfl rfl ?_ | refine US.goff2 rfl (by decide) rfl rfl rfl ?_ | (refine US.on rfl rfl (by decide) rfl ?_; refine US.buildN [0, 1] rfl (by decide) rfl rfl bt27 rfl rfl rfl rfl rfl rfl rfl rfl ?_)
        first | refine US.goff rfl (by decide) rfl rfl rfl rfl ?_ | refine US.goff2 rfl (by decide) rfl rfl rfl ?_ | (refine US.on rfl rfl (by decide) rfl ?_; refine US.call_pure rfl (by decide) rfl rfl rfl rfl (fun _ => right_spec' (kn k n) (fits_kn k n) _ hr _) ?_)
        first | refine US.goff rfl (by decide) rfl rfl rfl rfl ?_ | refine US.goff2 rfl (by decide) rfl rfl rfl ?_ | (refine US.on rfl rfl (by decide) rfl ?_; refine US.move rfl (by decide) rfl rfl rfl ?_)
        first | refine US.goff rfl (by decide) rfl rfl rfl rfl ?_ | refine US.goff2 rfl (by decide) rfl rfl rfl ?_ | (refine US.on rfl rfl (by decide) rfl ?_; refine US.bool_eql rfl (by decide) rfl rfl Try.underlying4 rfl rfl ?_)
        refine US.eq (u' := .v (.bool true)) (by simp) ?_
        refine US.pick rfl (by decide) rfl rfl rfl rfl ?_
        refine US.move rfl (by decide) rfl rfl rfl ?_
        first | refine US.goff rfl (by decide) rfl rfl rfl rfl ?_ | refine US.goff2 rfl (by decide) rfl rfl rfl ?_ | (refine US.on rfl rfl (by decide) rfl ?_; refine US.move rfl (by decide) rfl rfl rfl ?_)
        first | refine US.goff rfl (by decide) rfl rfl rfl rfl ?_ | refine US.goff2 rfl (by decide) rfl rfl rfl ?_ | (refine US.on rfl rfl (by decide) rfl ?_; refine US.call_pure rfl (by decide) rfl rfl rfl rfl (fun _ => num_spec n _) ?_)
        first | refine US.goff rfl (by decide) rfl rfl rfl rfl ?_ | refine US.goff2 rfl (by decide) rfl rfl rfl ?_ | (refine US.on rfl rfl (by decide) rfl ?_; first | refine US.field_cell rfl (by decide) rfl rfl rfl ft27_1 rfl ?_ | refine US.field_agg rfl (by decide) rfl rfl rfl ft27_1 rfl ?_)
        first | refine US.goff rfl (by decide) rfl rfl rfl rfl ?_ | refine US.goff2 rfl (by decide) rfl rfl rfl ?_ | (refine US.on rfl rfl (by decide) rfl ?_; refine US.move rfl (by decide) rfl rfl rfl ?_)
        first | refine US.goff rfl (by decide) rfl rfl rfl rfl ?_ | refine US.goff2 rfl (by decide) rfl rfl rfl ?_ | (refine US.on rfl rfl (by decide) rfl ?_; refine US.bin_int rfl (by decide) rfl rfl rfl rfl (r := .bool true) (by simp [iop]) ?_)
        refine US.pick rfl (by decide) rfl rfl rfl rfl ?_
        refine US.move rfl (by decide) rfl rfl rfl ?_
        first | refine US.goff rfl (by decide) rfl rfl rfl rfl ?_ | refine US.goff2 rfl (by decide) rfl rfl rfl ?_ | (refine US.on rfl rfl (by decide) rfl ?_; refine US.move rfl (by decide) rfl rfl rfl ?_)
        first | refine US.goff rfl (by decide) rfl rfl rfl rfl ?_ | refine US.goff2 rfl (by decide) rfl rfl rfl ?_ | (refine US.on rfl rfl (by decide) rfl ?_; refine US.call_pure rfl (by decide) rfl rfl rfl rfl (fun _ => num_spec n _) ?_)
        first | refine US.goff rfl (by decide) rfl rfl rfl rfl ?_ | refine US.goff2 rfl (by decide) rfl rfl rfl ?_ | (refine US.on rfl rfl (by decide) rfl ?_; refine US.call_pure rfl (by decide) rfl rfl rfl rfl (fun _ => right_spec' (numV n) (fits_num n) _ (num_right n) _) ?_)
        first | refine US.goff rfl (by decide) rfl rfl rfl rfl ?_ | refine US.goff2 rfl (by decide) rfl rfl rfl ?_ | (refine US.on rfl rfl (by decide) rfl ?_; refine US.move rfl (by decide) rfl rfl rfl ?_)
        first | refine US.goff rfl (by decide) rfl rfl rfl rfl ?_ | refine US.goff2 rfl (by decide) rfl rfl rfl ?_ | (refine US.on rfl rfl (by decide) rfl ?_; refine US.bin_int rfl (by decide) rfl rfl rfl rfl (r := .bool true) (by first | (simp [iop, sop, lo]; done) | (simp [iop, sop]; omega) | exact congrArg (fun b => some (Value.bool b)) (decide_eq_true lo)) ?_)
        first | refine US.goff rfl (by decide) rfl rfl rfl rfl ?_ | refine US.goff2 rfl (by decide) rfl rfl rfl ?_ | (refine US.on rfl rfl (by decide) rfl ?_; refine US.move rfl (by decide) rfl rfl rfl ?_)
        first | refine US.goff rfl (by decide) rfl rfl rfl rfl ?_ | refine US.goff2 rfl (by decide) rfl rfl rfl ?_ | (refine US.on rfl rfl (by decide) rfl ?_; refine US.move rfl (by decide) rfl rfl rfl ?_)
        first | refine US.goff rfl (by decide) rfl rfl rfl rfl ?_ | refine US.goff2 rfl (by decide) rfl rfl rfl ?_ | (refine US.on rfl rfl (by decide) rfl ?_; refine US.bin_int rfl (by decide) rfl rfl rfl rfl rfl ?_)
        first | refine US.goff rfl (by decide) rfl rfl rfl rfl ?_ | refine US.goff2 rfl (by decide) rfl rfl rfl ?_ | (refine US.on rfl rfl (by decide) rfl ?_; refine US.pick rfl (by decide) rfl rfl rfl rfl ?_)
        first | refine US.goff rfl (by decide) rfl rfl rfl rfl ?_ | refine US.goff2 rfl (by decide) rfl rfl rfl ?_ | (refine US.on rfl rfl (by decide) rfl ?_; refine US.bool_eql rfl (by decide) rfl rfl Try.underlying4 rfl rfl ?_)
        refine US.eq (u' := .v (.bool true)) (by simp [lo]) ?_
        refine US.pick rfl (by decide) rfl rfl rfl rfl ?_
        refine US.assign rfl (by decide) rfl rfl rfl ?_
        refine US.nil ?_
        repeat (with_reducible first | refine UW.seq ?_ | refine UW.block ?_ | refine UQ.then ?_ | refine UQ.blockN ?_ | refine UW.skip ?_ | refine UW.exit ?_ | refine UQ.pass ?_ | refine UQ.here ?_ | refine UQ.out (by decide) ?_ | refine UW.ret ?_ | refine UQ.passR ?_ | refine UQ.blockR ?_ | refine UW.region ?_)
        exact retR [] (fun _ => res_tmp rfl rfl) (by simp) fun hd => ⟨rfl, rfl⟩
    · refine US.move rfl (by decide) rfl rfl rfl ?_
      refine US.bin_int rfl (by decide) rfl rfl rfl rfl (r := .bool false) (by first | (simp [iop, sop, k1]; done) | (simp [iop, sop]; omega) | exact congrArg (fun b => some (Value.bool b)) (decide_eq_false k1)) ?_
      refine US.nil ?_
      repeat (with_reducible first | refine UW.seq ?_ | refine UW.block ?_ | refine UQ.then ?_ | refine UQ.blockN ?_ | refine UW.skip ?_ | refine UW.exit ?_ | refine UQ.pass ?_ | refine UQ.here ?_ | refine UQ.out (by decide) ?_ | refine UW.ret ?_ | refine UQ.passR ?_ | refine UQ.blockR ?_ | refine UW.region ?_)
      refine UW.cond rfl (fun h => absurd h (by simp)) (fun _ => ?_)
      repeat (with_reducible first | refine UW.seq ?_ | refine UW.block ?_ | refine UQ.then ?_ | refine UQ.blockN ?_ | refine UW.skip ?_ | refine UW.exit ?_ | refine UQ.pass ?_ | refine UQ.here ?_ | refine UQ.out (by decide) ?_ | refine UW.ret ?_ | refine UQ.passR ?_ | refine UQ.blockR ?_ | refine UW.region ?_)
      by_cases k2 : k = 2
      · refine US.move rfl (by decide) rfl rfl rfl ?_
        refine US.bin_int rfl (by decide) rfl rfl rfl rfl (r := .bool true) (by first | (simp [iop, sop, k2]; done) | (simp [iop, sop]; omega) | exact congrArg (fun b => some (Value.bool b)) (decide_eq_true k2)) ?_
        refine US.nil ?_
        repeat (with_reducible first | refine UW.seq ?_ | refine UW.block ?_ | refine UQ.then ?_ | refine UQ.blockN ?_ | refine UW.skip ?_ | refine UW.exit ?_ | refine UQ.pass ?_ | refine UQ.here ?_ | refine UQ.out (by decide) ?_ | refine UW.ret ?_ | refine UQ.passR ?_ | refine UQ.blockR ?_ | refine UW.region ?_)
        refine UW.cond rfl (fun _ => ?_) (fun h => absurd h (by simp))
        repeat (with_reducible first | refine UW.seq ?_ | refine UW.block ?_ | refine UQ.then ?_ | refine UQ.blockN ?_ | refine UW.skip ?_ | refine UW.exit ?_ | refine UQ.pass ?_ | refine UQ.here ?_ | refine UQ.out (by decide) ?_ | refine UW.ret ?_ | refine UQ.passR ?_ | refine UQ.blockR ?_ | refine UW.region ?_)
        refine US.move rfl (by decide) rfl rfl rfl ?_
        refine US.bin_int rfl (by decide) rfl rfl rfl rfl (r := .bool true) (by first | (simp [iop, sop, lo]; done) | (simp [iop, sop]; omega) | exact congrArg (fun b => some (Value.bool b)) (decide_eq_true lo)) ?_
        refine US.move rfl (by decide) rfl rfl rfl ?_
        first | refine US.goff rfl (by decide) rfl rfl rfl rfl ?_ | refine US.goff2 rfl (by decide) rfl rfl rfl ?_ | (refine US.on rfl rfl (by decide) rfl ?_; refine US.move rfl (by decide) rfl rfl rfl ?_)
        first | refine US.goff rfl (by decide) rfl rfl rfl rfl ?_ | refine US.goff2 rfl (by decide) rfl rfl rfl ?_ | (refine US.on rfl rfl (by decide) rfl ?_; refine US.bin_int rfl (by decide) rfl rfl rfl rfl rfl ?_)
        refine US.pick rfl (by decide) rfl rfl rfl rfl ?_
        refine US.assign rfl (by decide) rfl rfl rfl ?_
        refine US.eq (u' := .v (.bool (may k n))) (by simp [may, k2, lo]) ?_
        refine US.nil ?_
        repeat (with_reducible first | refine UW.seq ?_ | refine UW.block ?_ | refine UQ.then ?_ | refine UQ.blockN ?_ | refine UW.skip ?_ | refine UW.exit ?_ | refine UQ.pass ?_ | refine UQ.here ?_ | refine UQ.out (by decide) ?_ | refine UW.ret ?_ | refine UQ.passR ?_ | refine UQ.blockR ?_ | refine UW.region ?_)
        refine US.call_pure rfl (by decide) rfl rfl rfl rfl (fun _ => known_spec _) ?_
        refine US.move rfl (by decide) rfl rfl rfl ?_
        first | refine US.goff rfl (by decide) rfl rfl rfl rfl ?_ | refine US.goff2 rfl (by decide) rfl rfl rfl ?_ | (refine US.on rfl rfl (by decide) rfl ?_; refine US.move rfl (by decide) rfl rfl rfl ?_)
        first | refine US.goff rfl (by decide) rfl rfl rfl rfl ?_ | refine US.goff2 rfl (by decide) rfl rfl rfl ?_ | (refine US.on rfl rfl (by decide) rfl ?_; refine US.move rfl (by decide) rfl rfl rfl ?_)
        first | refine US.goff rfl (by decide) rfl rfl rfl rfl ?_ | refine US.goff2 rfl (by decide) rfl rfl rfl ?_ | (refine US.on rfl rfl (by decide) rfl ?_; refine US.buildN [0, 1] rfl (by decide) rfl rfl bt27 rfl rfl rfl rfl rfl rfl rfl rfl ?_)
        first | refine US.goff rfl (by decide) rfl rfl rfl rfl ?_ | refine US.goff2 rfl (by decide) rfl rfl rfl ?_ | (refine US.on rfl rfl (by decide) rfl ?_; refine US.call_pure rfl (by decide) rfl rfl rfl rfl (fun _ => right_spec' (kn k n) (fits_kn k n) _ hr _) ?_)
        first | refine US.goff rfl (by decide) rfl rfl rfl rfl ?_ | refine US.goff2 rfl (by decide) rfl rfl rfl ?_ | (refine US.on rfl rfl (by decide) rfl ?_; refine US.move rfl (by decide) rfl rfl rfl ?_)
        first | refine US.goff rfl (by decide) rfl rfl rfl rfl ?_ | refine US.goff2 rfl (by decide) rfl rfl rfl ?_ | (refine US.on rfl rfl (by decide) rfl ?_; refine US.bool_eql rfl (by decide) rfl rfl Try.underlying4 rfl rfl ?_)
        refine US.eq (u' := .v (.bool true)) (by simp) ?_
        refine US.pick rfl (by decide) rfl rfl rfl rfl ?_
        refine US.move rfl (by decide) rfl rfl rfl ?_
        first | refine US.goff rfl (by decide) rfl rfl rfl rfl ?_ | refine US.goff2 rfl (by decide) rfl rfl rfl ?_ | (refine US.on rfl rfl (by decide) rfl ?_; refine US.move rfl (by decide) rfl rfl rfl ?_)
        first | refine US.goff rfl (by decide) rfl rfl rfl rfl ?_ | refine US.goff2 rfl (by decide) rfl rfl rfl ?_ | (refine US.on rfl rfl (by decide) rfl ?_; refine US.call_pure rfl (by decide) rfl rfl rfl rfl (fun _ => num_spec n _) ?_)
        first | refine US.goff rfl (by decide) rfl rfl rfl rfl ?_ | refine US.goff2 rfl (by decide) rfl rfl rfl ?_ | (refine US.on rfl rfl (by decide) rfl ?_; first | refine US.field_cell rfl (by decide) rfl rfl rfl ft27_1 rfl ?_ | refine US.field_agg rfl (by decide) rfl rfl rfl ft27_1 rfl ?_)
        first | refine US.goff rfl (by decide) rfl rfl rfl rfl ?_ | refine US.goff2 rfl (by decide) rfl rfl rfl ?_ | (refine US.on rfl rfl (by decide) rfl ?_; refine US.move rfl (by decide) rfl rfl rfl ?_)
        first | refine US.goff rfl (by decide) rfl rfl rfl rfl ?_ | refine US.goff2 rfl (by decide) rfl rfl rfl ?_ | (refine US.on rfl rfl (by decide) rfl ?_; refine US.bin_int rfl (by decide) rfl rfl rfl rfl (r := .bool true) (by simp [iop]) ?_)
        refine US.pick rfl (by decide) rfl rfl rfl rfl ?_
        refine US.move rfl (by decide) rfl rfl rfl ?_
        first | refine US.goff rfl (by decide) rfl rfl rfl rfl ?_ | refine US.goff2 rfl (by decide) rfl rfl rfl ?_ | (refine US.on rfl rfl (by decide) rfl ?_; refine US.move rfl (by decide) rfl rfl rfl ?_)
        first | refine US.goff rfl (by decide) rfl rfl rfl rfl ?_ | refine US.goff2 rfl (by decide) rfl rfl rfl ?_ | (refine US.on rfl rfl (by decide) rfl ?_; refine US.call_pure rfl (by decide) rfl rfl rfl rfl (fun _ => num_spec n _) ?_)
        first | refine US.goff rfl (by decide) rfl rfl rfl rfl ?_ | refine US.goff2 rfl (by decide) rfl rfl rfl ?_ | (refine US.on rfl rfl (by decide) rfl ?_; refine US.call_pure rfl (by decide) rfl rfl rfl rfl (fun _ => right_spec' (numV n) (fits_num n) _ (num_right n) _) ?_)
        first | refine US.goff rfl (by decide) rfl rfl rfl rfl ?_ | refine US.goff2 rfl (by decide) rfl rfl rfl ?_ | (refine US.on rfl rfl (by decide) rfl ?_; refine US.move rfl (by decide) rfl rfl rfl ?_)
        first | refine US.goff rfl (by decide) rfl rfl rfl rfl ?_ | refine US.goff2 rfl (by decide) rfl rfl rfl ?_ | (refine US.on rfl rfl (by decide) rfl ?_; refine US.bin_int rfl (by decide) rfl rfl rfl rfl (r := .bool true) (by first | (simp [iop, sop, lo]; done) | (simp [iop, sop]; omega) | exact congrArg (fun b => some (Value.bool b)) (decide_eq_true lo)) ?_)
        first | refine US.goff rfl (by decide) rfl rfl rfl rfl ?_ | refine US.goff2 rfl (by decide) rfl rfl rfl ?_ | (refine US.on rfl rfl (by decide) rfl ?_; refine US.move rfl (by decide) rfl rfl rfl ?_)
        first | refine US.goff rfl (by decide) rfl rfl rfl rfl ?_ | refine US.goff2 rfl (by decide) rfl rfl rfl ?_ | (refine US.on rfl rfl (by decide) rfl ?_; refine US.move rfl (by decide) rfl rfl rfl ?_)
        first | refine US.goff rfl (by decide) rfl rfl rfl rfl ?_ | refine US.goff2 rfl (by decide) rfl rfl rfl ?_ | (refine US.on rfl rfl (by decide) rfl ?_; refine US.bin_int rfl (by decide) rfl rfl rfl rfl rfl ?_)
        first | refine US.goff rfl (by decide) rfl rfl rfl rfl ?_ | refine US.goff2 rfl (by decide) rfl rfl rfl ?_ | (refine US.on rfl rfl (by decide) rfl ?_; refine US.pick rfl (by decide) rfl rfl rfl rfl ?_)
        first | refine US.goff rfl (by decide) rfl rfl rfl rfl ?_ | refine US.goff2 rfl (by decide) rfl rfl rfl ?_ | (refine US.on rfl rfl (by decide) rfl ?_; refine US.bool_eql rfl (by decide) rfl rfl Try.underlying4 rfl rfl ?_)
        refine US.eq (u' := .v (.bool true)) (by simp [lo]) ?_
        refine US.pick rfl (by decide) rfl rfl rfl rfl ?_
        refine US.assign rfl (by decide) rfl rfl rfl ?_
        refine US.nil ?_
        repeat (with_reducible first | refine UW.seq ?_ | refine UW.block ?_ | refine UQ.then ?_ | refine UQ.blockN ?_ | refine UW.skip ?_ | refine UW.exit ?_ | refine UQ.pass ?_ | refine UQ.here ?_ | refine UQ.out (by decide) ?_ | refine UW.ret ?_ | refine UQ.passR ?_ | refine UQ.blockR ?_ | refine UW.region ?_)
        exact retR [] (fun _ => res_tmp rfl rfl) (by simp) fun hd => ⟨rfl, rfl⟩
      · refine US.move rfl (by decide) rfl rfl rfl ?_
        refine US.bin_int rfl (by decide) rfl rfl rfl rfl (r := .bool false) (by first | (simp [iop, sop, k2]; done) | (simp [iop, sop]; omega) | exact congrArg (fun b => some (Value.bool b)) (decide_eq_false k2)) ?_
        refine US.nil ?_
        repeat (with_reducible first | refine UW.seq ?_ | refine UW.block ?_ | refine UQ.then ?_ | refine UQ.blockN ?_ | refine UW.skip ?_ | refine UW.exit ?_ | refine UQ.pass ?_ | refine UQ.here ?_ | refine UQ.out (by decide) ?_ | refine UW.ret ?_ | refine UQ.passR ?_ | refine UQ.blockR ?_ | refine UW.region ?_)
        refine UW.cond rfl (fun h => absurd h (by simp)) (fun _ => ?_)
        refine UW.keep [(6, .v (.bool (may k n))), (0, .v (.int .i64 n)), (5, .v (.int .i64 k))] [] ⟨?_, rfl, rfl, trivial⟩ (.refl _) ?_
        · rw [show may k n = (n == 0) from by simp [may, k1, k2]]; rfl
        repeat (with_reducible first | refine UW.seq ?_ | refine UW.block ?_ | refine UQ.then ?_ | refine UQ.blockN ?_ | refine UW.skip ?_ | refine UW.exit ?_ | refine UQ.pass ?_ | refine UQ.here ?_ | refine UQ.out (by decide) ?_ | refine UW.ret ?_ | refine UQ.passR ?_ | refine UQ.blockR ?_ | refine UW.region ?_)
        refine US.call_pure rfl (by decide) rfl rfl rfl rfl (fun _ => known_spec _) ?_
        refine US.move rfl (by decide) rfl rfl rfl ?_
        first | refine US.goff rfl (by decide) rfl rfl rfl rfl ?_ | refine US.goff2 rfl (by decide) rfl rfl rfl ?_ | (refine US.on rfl rfl (by decide) rfl ?_; refine US.move rfl (by decide) rfl rfl rfl ?_)
        first | refine US.goff rfl (by decide) rfl rfl rfl rfl ?_ | refine US.goff2 rfl (by decide) rfl rfl rfl ?_ | (refine US.on rfl rfl (by decide) rfl ?_; refine US.move rfl (by decide) rfl rfl rfl ?_)
        first | refine US.goff rfl (by decide) rfl rfl rfl rfl ?_ | refine US.goff2 rfl (by decide) rfl rfl rfl ?_ | (refine US.on rfl rfl (by decide) rfl ?_; refine US.buildN [0, 1] rfl (by decide) rfl rfl bt27 rfl rfl rfl rfl rfl rfl rfl rfl ?_)
        first | refine US.goff rfl (by decide) rfl rfl rfl rfl ?_ | refine US.goff2 rfl (by decide) rfl rfl rfl ?_ | (refine US.on rfl rfl (by decide) rfl ?_; refine US.call_pure rfl (by decide) rfl rfl rfl rfl (fun _ => right_spec' (kn k n) (fits_kn k n) _ hr _) ?_)
        first | refine US.goff rfl (by decide) rfl rfl rfl rfl ?_ | refine US.goff2 rfl (by decide) rfl rfl rfl ?_ | (refine US.on rfl rfl (by decide) rfl ?_; refine US.move rfl (by decide) rfl rfl rfl ?_)
        first | refine US.goff rfl (by decide) rfl rfl rfl rfl ?_ | refine US.goff2 rfl (by decide) rfl rfl rfl ?_ | (refine US.on rfl rfl (by decide) rfl ?_; refine US.bool_eql rfl (by decide) rfl rfl Try.underlying4 rfl rfl ?_)
        refine US.eq (u' := .v (.bool true)) (by simp) ?_
        refine US.pick rfl (by decide) rfl rfl rfl rfl ?_
        refine US.move rfl (by decide) rfl rfl rfl ?_
        first | refine US.goff rfl (by decide) rfl rfl rfl rfl ?_ | refine US.goff2 rfl (by decide) rfl rfl rfl ?_ | (refine US.on rfl rfl (by decide) rfl ?_; refine US.move rfl (by decide) rfl rfl rfl ?_)
        first | refine US.goff rfl (by decide) rfl rfl rfl rfl ?_ | refine US.goff2 rfl (by decide) rfl rfl rfl ?_ | (refine US.on rfl rfl (by decide) rfl ?_; refine US.call_pure rfl (by decide) rfl rfl rfl rfl (fun _ => num_spec n _) ?_)
        first | refine US.goff rfl (by decide) rfl rfl rfl rfl ?_ | refine US.goff2 rfl (by decide) rfl rfl rfl ?_ | (refine US.on rfl rfl (by decide) rfl ?_; first | refine US.field_cell rfl (by decide) rfl rfl rfl ft27_1 rfl ?_ | refine US.field_agg rfl (by decide) rfl rfl rfl ft27_1 rfl ?_)
        first | refine US.goff rfl (by decide) rfl rfl rfl rfl ?_ | refine US.goff2 rfl (by decide) rfl rfl rfl ?_ | (refine US.on rfl rfl (by decide) rfl ?_; refine US.move rfl (by decide) rfl rfl rfl ?_)
        first | refine US.goff rfl (by decide) rfl rfl rfl rfl ?_ | refine US.goff2 rfl (by decide) rfl rfl rfl ?_ | (refine US.on rfl rfl (by decide) rfl ?_; refine US.bin_int rfl (by decide) rfl rfl rfl rfl (r := .bool true) (by simp [iop]) ?_)
        refine US.pick rfl (by decide) rfl rfl rfl rfl ?_
        refine US.move rfl (by decide) rfl rfl rfl ?_
        first | refine US.goff rfl (by decide) rfl rfl rfl rfl ?_ | refine US.goff2 rfl (by decide) rfl rfl rfl ?_ | (refine US.on rfl rfl (by decide) rfl ?_; refine US.move rfl (by decide) rfl rfl rfl ?_)
        first | refine US.goff rfl (by decide) rfl rfl rfl rfl ?_ | refine US.goff2 rfl (by decide) rfl rfl rfl ?_ | (refine US.on rfl rfl (by decide) rfl ?_; refine US.call_pure rfl (by decide) rfl rfl rfl rfl (fun _ => num_spec n _) ?_)
        first | refine US.goff rfl (by decide) rfl rfl rfl rfl ?_ | refine US.goff2 rfl (by decide) rfl rfl rfl ?_ | (refine US.on rfl rfl (by decide) rfl ?_; refine US.call_pure rfl (by decide) rfl rfl rfl rfl (fun _ => right_spec' (numV n) (fits_num n) _ (num_right n) _) ?_)
        first | refine US.goff rfl (by decide) rfl rfl rfl rfl ?_ | refine US.goff2 rfl (by decide) rfl rfl rfl ?_ | (refine US.on rfl rfl (by decide) rfl ?_; refine US.move rfl (by decide) rfl rfl rfl ?_)
        first | refine US.goff rfl (by decide) rfl rfl rfl rfl ?_ | refine US.goff2 rfl (by decide) rfl rfl rfl ?_ | (refine US.on rfl rfl (by decide) rfl ?_; refine US.bin_int rfl (by decide) rfl rfl rfl rfl (r := .bool true) (by first | (simp [iop, sop, lo]; done) | (simp [iop, sop]; omega) | exact congrArg (fun b => some (Value.bool b)) (decide_eq_true lo)) ?_)
        first | refine US.goff rfl (by decide) rfl rfl rfl rfl ?_ | refine US.goff2 rfl (by decide) rfl rfl rfl ?_ | (refine US.on rfl rfl (by decide) rfl ?_; refine US.move rfl (by decide) rfl rfl rfl ?_)
        first | refine US.goff rfl (by decide) rfl rfl rfl rfl ?_ | refine US.goff2 rfl (by decide) rfl rfl rfl ?_ | (refine US.on rfl rfl (by decide) rfl ?_; refine US.move rfl (by decide) rfl rfl rfl ?_)
        first | refine US.goff rfl (by decide) rfl rfl rfl rfl ?_ | refine US.goff2 rfl (by decide) rfl rfl rfl ?_ | (refine US.on rfl rfl (by decide) rfl ?_; refine US.bin_int rfl (by decide) rfl rfl rfl rfl rfl ?_)
        first | refine US.goff rfl (by decide) rfl rfl rfl rfl ?_ | refine US.goff2 rfl (by decide) rfl rfl rfl ?_ | (refine US.on rfl rfl (by decide) rfl ?_; refine US.pick rfl (by decide) rfl rfl rfl rfl ?_)
        first | refine US.goff rfl (by decide) rfl rfl rfl rfl ?_ | refine US.goff2 rfl (by decide) rfl rfl rfl ?_ | (refine US.on rfl rfl (by decide) rfl ?_; refine US.bool_eql rfl (by decide) rfl rfl Try.underlying4 rfl rfl ?_)
        refine US.eq (u' := .v (.bool true)) (by simp [lo]) ?_
        refine US.pick rfl (by decide) rfl rfl rfl rfl ?_
        refine US.assign rfl (by decide) rfl rfl rfl ?_
        refine US.nil ?_
        repeat (with_reducible first | refine UW.seq ?_ | refine UW.block ?_ | refine UQ.then ?_ | refine UQ.blockN ?_ | refine UW.skip ?_ | refine UW.exit ?_ | refine UQ.pass ?_ | refine UQ.here ?_ | refine UQ.out (by decide) ?_ | refine UW.ret ?_ | refine UQ.passR ?_ | refine UQ.blockR ?_ | refine UW.region ?_)
        exact retR [] (fun _ => res_tmp rfl rfl) (by simp) fun hd => ⟨rfl, rfl⟩
  · by_cases k1 : k = 1
    · have k2 : ¬ k = 2 := by omega
      refine US.move rfl (by decide) rfl rfl rfl ?_
      refine US.bin_int rfl (by decide) rfl rfl rfl rfl (r := .bool true) (by first | (simp [iop, sop, k1]; done) | (simp [iop, sop]; omega) | exact congrArg (fun b => some (Value.bool b)) (decide_eq_true k1)) ?_
      refine US.nil ?_
      repeat (with_reducible first | refine UW.seq ?_ | refine UW.block ?_ | refine UQ.then ?_ | refine UQ.blockN ?_ | refine UW.skip ?_ | refine UW.exit ?_ | refine UQ.pass ?_ | refine UQ.here ?_ | refine UQ.out (by decide) ?_ | refine UW.ret ?_ | refine UQ.passR ?_ | refine UQ.blockR ?_ | refine UW.region ?_)
      refine UW.cond rfl (fun _ => ?_) (fun h => absurd h (by simp))
      repeat (with_reducible first | refine UW.seq ?_ | refine UW.block ?_ | refine UQ.then ?_ | refine UQ.blockN ?_ | refine UW.skip ?_ | refine UW.exit ?_ | refine UQ.pass ?_ | refine UQ.here ?_ | refine UQ.out (by decide) ?_ | refine UW.ret ?_ | refine UQ.passR ?_ | refine UQ.blockR ?_ | refine UW.region ?_)
      by_cases n0 : n = 0
      · refine US.move rfl (by decide) rfl rfl rfl ?_
        refine US.bin_int rfl (by decide) rfl rfl rfl rfl (r := .bool true) (by first | (simp [iop, sop, n0]; done) | (simp [iop, sop]; omega) | exact congrArg (fun b => some (Value.bool b)) (decide_eq_true n0)) ?_
        refine US.move rfl (by decide) rfl rfl rfl ?_
        first | refine US.goff rfl (by decide) rfl rfl rfl rfl ?_ | refine US.goff2 rfl (by decide) rfl rfl rfl ?_ | (refine US.on rfl rfl (by decide) rfl ?_; refine US.move rfl (by decide) rfl rfl rfl ?_)
        first | refine US.goff rfl (by decide) rfl rfl rfl rfl ?_ | refine US.goff2 rfl (by decide) rfl rfl rfl ?_ | (refine US.on rfl rfl (by decide) rfl ?_; refine US.bin_int rfl (by decide) rfl rfl rfl rfl rfl ?_)
        refine US.pick rfl (by decide) rfl rfl rfl rfl ?_
        refine US.assign rfl (by decide) rfl rfl rfl ?_
        refine US.eq (u' := .v (.bool (may k n))) (by simp [may, k1, n0]) ?_
        refine US.nil ?_
        repeat (with_reducible first | refine UW.seq ?_ | refine UW.block ?_ | refine UQ.then ?_ | refine UQ.blockN ?_ | refine UW.skip ?_ | refine UW.exit ?_ | refine UQ.pass ?_ | refine UQ.here ?_ | refine UQ.out (by decide) ?_ | refine UW.ret ?_ | refine UQ.passR ?_ | refine UQ.blockR ?_ | refine UW.region ?_)
        refine US.move rfl (by decide) rfl rfl rfl ?_
        refine US.bin_int rfl (by decide) rfl rfl rfl rfl (r := .bool false) (by first | (simp [iop, sop, k2]; done) | (simp [iop, sop]; omega) | exact congrArg (fun b => some (Value.bool b)) (decide_eq_false k2)) ?_
        refine US.nil ?_
        repeat (with_reducible first | refine UW.seq ?_ | refine UW.block ?_ | refine UQ.then ?_ | refine UQ.blockN ?_ | refine UW.skip ?_ | refine UW.exit ?_ | refine UQ.pass ?_ | refine UQ.here ?_ | refine UQ.out (by decide) ?_ | refine UW.ret ?_ | refine UQ.passR ?_ | refine UQ.blockR ?_ | refine UW.region ?_)
        refine UW.cond rfl (fun h => absurd h (by simp)) (fun _ => ?_)
        repeat (with_reducible first | refine UW.seq ?_ | refine UW.block ?_ | refine UQ.then ?_ | refine UQ.blockN ?_ | refine UW.skip ?_ | refine UW.exit ?_ | refine UQ.pass ?_ | refine UQ.here ?_ | refine UQ.out (by decide) ?_ | refine UW.ret ?_ | refine UQ.passR ?_ | refine UQ.blockR ?_ | refine UW.region ?_)
        refine US.call_pure rfl (by decide) rfl rfl rfl rfl (fun _ => known_spec _) ?_
        refine US.move rfl (by decide) rfl rfl rfl ?_
        first | refine US.goff rfl (by decide) rfl rfl rfl rfl ?_ | refine US.goff2 rfl (by decide) rfl rfl rfl ?_ | (refine US.on rfl rfl (by decide) rfl ?_; refine US.move rfl (by decide) rfl rfl rfl ?_)
        first | refine US.goff rfl (by decide) rfl rfl rfl rfl ?_ | refine US.goff2 rfl (by decide) rfl rfl rfl ?_ | (refine US.on rfl rfl (by decide) rfl ?_; refine US.move rfl (by decide) rfl rfl rfl ?_)
        first | refine US.goff rfl (by decide) rfl rfl rfl rfl ?_ | refine US.goff2 rfl (by decide) rfl rfl rfl ?_ | (refine US.on rfl rfl (by decide) rfl ?_; refine US.buildN [0, 1] rfl (by decide) rfl rfl bt27 rfl rfl rfl rfl rfl rfl rfl rfl ?_)
        first | refine US.goff rfl (by decide) rfl rfl rfl rfl ?_ | refine US.goff2 rfl (by decide) rfl rfl rfl ?_ | (refine US.on rfl rfl (by decide) rfl ?_; refine US.call_pure rfl (by decide) rfl rfl rfl rfl (fun _ => right_spec' (kn k n) (fits_kn k n) _ hr _) ?_)
        first | refine US.goff rfl (by decide) rfl rfl rfl rfl ?_ | refine US.goff2 rfl (by decide) rfl rfl rfl ?_ | (refine US.on rfl rfl (by decide) rfl ?_; refine US.move rfl (by decide) rfl rfl rfl ?_)
        first | refine US.goff rfl (by decide) rfl rfl rfl rfl ?_ | refine US.goff2 rfl (by decide) rfl rfl rfl ?_ | (refine US.on rfl rfl (by decide) rfl ?_; refine US.bool_eql rfl (by decide) rfl rfl Try.underlying4 rfl rfl ?_)
        refine US.eq (u' := .v (.bool true)) (by simp) ?_
        refine US.pick rfl (by decide) rfl rfl rfl rfl ?_
        refine US.move rfl (by decide) rfl rfl rfl ?_
        first | refine US.goff rfl (by decide) rfl rfl rfl rfl ?_ | refine US.goff2 rfl (by decide) rfl rfl rfl ?_ | (refine US.on rfl rfl (by decide) rfl ?_; refine US.move rfl (by decide) rfl rfl rfl ?_)
        first | refine US.goff rfl (by decide) rfl rfl rfl rfl ?_ | refine US.goff2 rfl (by decide) rfl rfl rfl ?_ | (refine US.on rfl rfl (by decide) rfl ?_; refine US.call_pure rfl (by decide) rfl rfl rfl rfl (fun _ => num_spec n _) ?_)
        first | refine US.goff rfl (by decide) rfl rfl rfl rfl ?_ | refine US.goff2 rfl (by decide) rfl rfl rfl ?_ | (refine US.on rfl rfl (by decide) rfl ?_; first | refine US.field_cell rfl (by decide) rfl rfl rfl ft27_1 rfl ?_ | refine US.field_agg rfl (by decide) rfl rfl rfl ft27_1 rfl ?_)
        first | refine US.goff rfl (by decide) rfl rfl rfl rfl ?_ | refine US.goff2 rfl (by decide) rfl rfl rfl ?_ | (refine US.on rfl rfl (by decide) rfl ?_; refine US.move rfl (by decide) rfl rfl rfl ?_)
        first | refine US.goff rfl (by decide) rfl rfl rfl rfl ?_ | refine US.goff2 rfl (by decide) rfl rfl rfl ?_ | (refine US.on rfl rfl (by decide) rfl ?_; refine US.bin_int rfl (by decide) rfl rfl rfl rfl (r := .bool true) (by simp [iop]) ?_)
        refine US.pick rfl (by decide) rfl rfl rfl rfl ?_
        refine US.move rfl (by decide) rfl rfl rfl ?_
        first | refine US.goff rfl (by decide) rfl rfl rfl rfl ?_ | refine US.goff2 rfl (by decide) rfl rfl rfl ?_ | (refine US.on rfl rfl (by decide) rfl ?_; refine US.move rfl (by decide) rfl rfl rfl ?_)
        first | refine US.goff rfl (by decide) rfl rfl rfl rfl ?_ | refine US.goff2 rfl (by decide) rfl rfl rfl ?_ | (refine US.on rfl rfl (by decide) rfl ?_; refine US.call_pure rfl (by decide) rfl rfl rfl rfl (fun _ => num_spec n _) ?_)
        first | refine US.goff rfl (by decide) rfl rfl rfl rfl ?_ | refine US.goff2 rfl (by decide) rfl rfl rfl ?_ | (refine US.on rfl rfl (by decide) rfl ?_; refine US.call_pure rfl (by decide) rfl rfl rfl rfl (fun _ => right_spec' (numV n) (fits_num n) _ (num_right n) _) ?_)
        first | refine US.goff rfl (by decide) rfl rfl rfl rfl ?_ | refine US.goff2 rfl (by decide) rfl rfl rfl ?_ | (refine US.on rfl rfl (by decide) rfl ?_; refine US.move rfl (by decide) rfl rfl rfl ?_)
        first | refine US.goff rfl (by decide) rfl rfl rfl rfl ?_ | refine US.goff2 rfl (by decide) rfl rfl rfl ?_ | (refine US.on rfl rfl (by decide) rfl ?_; refine US.bin_int rfl (by decide) rfl rfl rfl rfl (r := .bool false) (by first | (simp [iop, sop, lo]; done) | (simp [iop, sop]; omega) | exact congrArg (fun b => some (Value.bool b)) (decide_eq_false lo)) ?_)
        first | refine US.goff rfl (by decide) rfl rfl rfl rfl ?_ | refine US.goff2 rfl (by decide) rfl rfl rfl ?_ | (refine US.on rfl rfl (by decide) rfl ?_; refine US.move rfl (by decide) rfl rfl rfl ?_)
        first | refine US.goff rfl (by decide) rfl rfl rfl rfl ?_ | refine US.goff2 rfl (by decide) rfl rfl rfl ?_ | (refine US.on rfl rfl (by decide) rfl ?_; refine US.move rfl (by decide) rfl rfl rfl ?_)
        first | refine US.goff rfl (by decide) rfl rfl rfl rfl ?_ | refine US.goff2 rfl (by decide) rfl rfl rfl ?_ | (refine US.on rfl rfl (by decide) rfl ?_; refine US.bin_int rfl (by decide) rfl rfl rfl rfl rfl ?_)
        first | refine US.goff rfl (by decide) rfl rfl rfl rfl ?_ | refine US.goff2 rfl (by decide) rfl rfl rfl ?_ | (refine US.on rfl rfl (by decide) rfl ?_; refine US.pick rfl (by decide) rfl rfl rfl rfl ?_)
        first | refine US.goff rfl (by decide) rfl rfl rfl rfl ?_ | refine US.goff2 rfl (by decide) rfl rfl rfl ?_ | (refine US.on rfl rfl (by decide) rfl ?_; refine US.bool_eql rfl (by decide) rfl rfl Try.underlying4 rfl rfl ?_)
        refine US.eq (u' := .v (.bool true)) (by simp [lo]) ?_
        refine US.pick rfl (by decide) rfl rfl rfl rfl ?_
        refine US.assign rfl (by decide) rfl rfl rfl ?_
        refine US.nil ?_
        repeat (with_reducible first | refine UW.seq ?_ | refine UW.block ?_ | refine UQ.then ?_ | refine UQ.blockN ?_ | refine UW.skip ?_ | refine UW.exit ?_ | refine UQ.pass ?_ | refine UQ.here ?_ | refine UQ.out (by decide) ?_ | refine UW.ret ?_ | refine UQ.passR ?_ | refine UQ.blockR ?_ | refine UW.region ?_)
        exact retR [] (fun _ => res_tmp rfl rfl) (by simp) fun hd => ⟨rfl, rfl⟩
      · refine US.move rfl (by decide) rfl rfl rfl ?_
        refine US.bin_int rfl (by decide) rfl rfl rfl rfl (r := .bool false) (by first | (simp [iop, sop, n0]; done) | (simp [iop, sop]; omega) | exact congrArg (fun b => some (Value.bool b)) (decide_eq_false n0)) ?_
        refine US.move rfl (by decide) rfl rfl rfl ?_
        first | refine US.goff rfl (by decide) rfl rfl rfl rfl ?_ | refine US.goff2 rfl (by decide) rfl rfl rfl ?_ | (refine US.on rfl rfl (by decide) rfl ?_; refine US.move rfl (by decide) rfl rfl rfl ?_)
        first | refine US.goff rfl (by decide) rfl rfl rfl rfl ?_ | refine US.goff2 rfl (by decide) rfl rfl rfl ?_ | (refine US.on rfl rfl (by decide) rfl ?_; refine US.bin_int rfl (by decide) rfl rfl rfl rfl rfl ?_)
        refine US.pick rfl (by decide) rfl rfl rfl rfl ?_
        refine US.assign rfl (by decide) rfl rfl rfl ?_
        refine US.eq (u' := .v (.bool (may k n))) (by simp [may, k1, n0]) ?_
        refine US.nil ?_
        repeat (with_reducible first | refine UW.seq ?_ | refine UW.block ?_ | refine UQ.then ?_ | refine UQ.blockN ?_ | refine UW.skip ?_ | refine UW.exit ?_ | refine UQ.pass ?_ | refine UQ.here ?_ | refine UQ.out (by decide) ?_ | refine UW.ret ?_ | refine UQ.passR ?_ | refine UQ.blockR ?_ | refine UW.region ?_)
        refine US.move rfl (by decide) rfl rfl rfl ?_
        refine US.bin_int rfl (by decide) rfl rfl rfl rfl (r := .bool false) (by first | (simp [iop, sop, k2]; done) | (simp [iop, sop]; omega) | exact congrArg (fun b => some (Value.bool b)) (decide_eq_false k2)) ?_
        refine US.nil ?_
        repeat (with_reducible first | refine UW.seq ?_ | refine UW.block ?_ | refine UQ.then ?_ | refine UQ.blockN ?_ | refine UW.skip ?_ | refine UW.exit ?_ | refine UQ.pass ?_ | refine UQ.here ?_ | refine UQ.out (by decide) ?_ | refine UW.ret ?_ | refine UQ.passR ?_ | refine UQ.blockR ?_ | refine UW.region ?_)
        refine UW.cond rfl (fun h => absurd h (by simp)) (fun _ => ?_)
        repeat (with_reducible first | refine UW.seq ?_ | refine UW.block ?_ | refine UQ.then ?_ | refine UQ.blockN ?_ | refine UW.skip ?_ | refine UW.exit ?_ | refine UQ.pass ?_ | refine UQ.here ?_ | refine UQ.out (by decide) ?_ | refine UW.ret ?_ | refine UQ.passR ?_ | refine UQ.blockR ?_ | refine UW.region ?_)
        refine US.call_pure rfl (by decide) rfl rfl rfl rfl (fun _ => known_spec _) ?_
        refine US.move rfl (by decide) rfl rfl rfl ?_
        first | refine US.goff rfl (by decide) rfl rfl rfl rfl ?_ | refine US.goff2 rfl (by decide) rfl rfl rfl ?_ | (refine US.on rfl rfl (by decide) rfl ?_; refine US.move rfl (by decide) rfl rfl rfl ?_)
        first | refine US.goff rfl (by decide) rfl rfl rfl rfl ?_ | refine US.goff2 rfl (by decide) rfl rfl rfl ?_ | (refine US.on rfl rfl (by decide) rfl ?_; refine US.move rfl (by decide) rfl rfl rfl ?_)
        first | refine US.goff rfl (by decide) rfl rfl rfl rfl ?_ | refine US.goff2 rfl (by decide) rfl rfl rfl ?_ | (refine US.on rfl rfl (by decide) rfl ?_; refine US.buildN [0, 1] rfl (by decide) rfl rfl bt27 rfl rfl rfl rfl rfl rfl rfl rfl ?_)
        first | refine US.goff rfl (by decide) rfl rfl rfl rfl ?_ | refine US.goff2 rfl (by decide) rfl rfl rfl ?_ | (refine US.on rfl rfl (by decide) rfl ?_; refine US.call_pure rfl (by decide) rfl rfl rfl rfl (fun _ => right_spec' (kn k n) (fits_kn k n) _ hr _) ?_)
        first | refine US.goff rfl (by decide) rfl rfl rfl rfl ?_ | refine US.goff2 rfl (by decide) rfl rfl rfl ?_ | (refine US.on rfl rfl (by decide) rfl ?_; refine US.move rfl (by decide) rfl rfl rfl ?_)
        first | refine US.goff rfl (by decide) rfl rfl rfl rfl ?_ | refine US.goff2 rfl (by decide) rfl rfl rfl ?_ | (refine US.on rfl rfl (by decide) rfl ?_; refine US.bool_eql rfl (by decide) rfl rfl Try.underlying4 rfl rfl ?_)
        refine US.eq (u' := .v (.bool true)) (by simp) ?_
        refine US.pick rfl (by decide) rfl rfl rfl rfl ?_
        refine US.move rfl (by decide) rfl rfl rfl ?_
        first | refine US.goff rfl (by decide) rfl rfl rfl rfl ?_ | refine US.goff2 rfl (by decide) rfl rfl rfl ?_ | (refine US.on rfl rfl (by decide) rfl ?_; refine US.move rfl (by decide) rfl rfl rfl ?_)
        first | refine US.goff rfl (by decide) rfl rfl rfl rfl ?_ | refine US.goff2 rfl (by decide) rfl rfl rfl ?_ | (refine US.on rfl rfl (by decide) rfl ?_; refine US.call_pure rfl (by decide) rfl rfl rfl rfl (fun _ => num_spec n _) ?_)
        first | refine US.goff rfl (by decide) rfl rfl rfl rfl ?_ | refine US.goff2 rfl (by decide) rfl rfl rfl ?_ | (refine US.on rfl rfl (by decide) rfl ?_; first | refine US.field_cell rfl (by decide) rfl rfl rfl ft27_1 rfl ?_ | refine US.field_agg rfl (by decide) rfl rfl rfl ft27_1 rfl ?_)
        first | refine US.goff rfl (by decide) rfl rfl rfl rfl ?_ | refine US.goff2 rfl (by decide) rfl rfl rfl ?_ | (refine US.on rfl rfl (by decide) rfl ?_; refine US.move rfl (by decide) rfl rfl rfl ?_)
        first | refine US.goff rfl (by decide) rfl rfl rfl rfl ?_ | refine US.goff2 rfl (by decide) rfl rfl rfl ?_ | (refine US.on rfl rfl (by decide) rfl ?_; refine US.bin_int rfl (by decide) rfl rfl rfl rfl (r := .bool true) (by simp [iop]) ?_)
        refine US.pick rfl (by decide) rfl rfl rfl rfl ?_
        refine US.move rfl (by decide) rfl rfl rfl ?_
        first | refine US.goff rfl (by decide) rfl rfl rfl rfl ?_ | refine US.goff2 rfl (by decide) rfl rfl rfl ?_ | (refine US.on rfl rfl (by decide) rfl ?_; refine US.move rfl (by decide) rfl rfl rfl ?_)
        first | refine US.goff rfl (by decide) rfl rfl rfl rfl ?_ | refine US.goff2 rfl (by decide) rfl rfl rfl ?_ | (refine US.on rfl rfl (by decide) rfl ?_; refine US.call_pure rfl (by decide) rfl rfl rfl rfl (fun _ => num_spec n _) ?_)
        first | refine US.goff rfl (by decide) rfl rfl rfl rfl ?_ | refine US.goff2 rfl (by decide) rfl rfl rfl ?_ | (refine US.on rfl rfl (by decide) rfl ?_; refine US.call_pure rfl (by decide) rfl rfl rfl rfl (fun _ => right_spec' (numV n) (fits_num n) _ (num_right n) _) ?_)
        first | refine US.goff rfl (by decide) rfl rfl rfl rfl ?_ | refine US.goff2 rfl (by decide) rfl rfl rfl ?_ | (refine US.on rfl rfl (by decide) rfl ?_; refine US.move rfl (by decide) rfl rfl rfl ?_)
        first | refine US.goff rfl (by decide) rfl rfl rfl rfl ?_ | refine US.goff2 rfl (by decide) rfl rfl rfl ?_ | (refine US.on rfl rfl (by decide) rfl ?_; refine US.bin_int rfl (by decide) rfl rfl rfl rfl (r := .bool false) (by first | (simp [iop, sop, lo]; done) | (simp [iop, sop]; omega) | exact congrArg (fun b => some (Value.bool b)) (decide_eq_false lo)) ?_)
        first | refine US.goff rfl (by decide) rfl rfl rfl rfl ?_ | refine US.goff2 rfl (by decide) rfl rfl rfl ?_ | (refine US.on rfl rfl (by decide) rfl ?_; refine US.move rfl (by decide) rfl rfl rfl ?_)
        first | refine US.goff rfl (by decide) rfl rfl rfl rfl ?_ | refine US.goff2 rfl (by decide) rfl rfl rfl ?_ | (refine US.on rfl rfl (by decide) rfl ?_; refine US.move rfl (by decide) rfl rfl rfl ?_)
        first | refine US.goff rfl (by decide) rfl rfl rfl rfl ?_ | refine US.goff2 rfl (by decide) rfl rfl rfl ?_ | (refine US.on rfl rfl (by decide) rfl ?_; refine US.bin_int rfl (by decide) rfl rfl rfl rfl rfl ?_)
        first | refine US.goff rfl (by decide) rfl rfl rfl rfl ?_ | refine US.goff2 rfl (by decide) rfl rfl rfl ?_ | (refine US.on rfl rfl (by decide) rfl ?_; refine US.pick rfl (by decide) rfl rfl rfl rfl ?_)
        first | refine US.goff rfl (by decide) rfl rfl rfl rfl ?_ | refine US.goff2 rfl (by decide) rfl rfl rfl ?_ | (refine US.on rfl rfl (by decide) rfl ?_; refine US.bool_eql rfl (by decide) rfl rfl Try.underlying4 rfl rfl ?_)
        refine US.eq (u' := .v (.bool true)) (by simp [lo]) ?_
        refine US.pick rfl (by decide) rfl rfl rfl rfl ?_
        refine US.assign rfl (by decide) rfl rfl rfl ?_
        refine US.nil ?_
        repeat (with_reducible first | refine UW.seq ?_ | refine UW.block ?_ | refine UQ.then ?_ | refine UQ.blockN ?_ | refine UW.skip ?_ | refine UW.exit ?_ | refine UQ.pass ?_ | refine UQ.here ?_ | refine UQ.out (by decide) ?_ | refine UW.ret ?_ | refine UQ.passR ?_ | refine UQ.blockR ?_ | refine UW.region ?_)
        exact retR [] (fun _ => res_tmp rfl rfl) (by simp) fun hd => ⟨rfl, rfl⟩
    · refine US.move rfl (by decide) rfl rfl rfl ?_
      refine US.bin_int rfl (by decide) rfl rfl rfl rfl (r := .bool false) (by first | (simp [iop, sop, k1]; done) | (simp [iop, sop]; omega) | exact congrArg (fun b => some (Value.bool b)) (decide_eq_false k1)) ?_
      refine US.nil ?_
      repeat (with_reducible first | refine UW.seq ?_ | refine UW.block ?_ | refine UQ.then ?_ | refine UQ.blockN ?_ | refine UW.skip ?_ | refine UW.exit ?_ | refine UQ.pass ?_ | refine UQ.here ?_ | refine UQ.out (by decide) ?_ | refine UW.ret ?_ | refine UQ.passR ?_ | refine UQ.blockR ?_ | refine UW.region ?_)
      refine UW.cond rfl (fun h => absurd h (by simp)) (fun _ => ?_)
      repeat (with_reducible first | refine UW.seq ?_ | refine UW.block ?_ | refine UQ.then ?_ | refine UQ.blockN ?_ | refine UW.skip ?_ | refine UW.exit ?_ | refine UQ.pass ?_ | refine UQ.here ?_ | refine UQ.out (by decide) ?_ | refine UW.ret ?_ | refine UQ.passR ?_ | refine UQ.blockR ?_ | refine UW.region ?_)
      by_cases k2 : k = 2
      · refine US.move rfl (by decide) rfl rfl rfl ?_
        refine US.bin_int rfl (by decide) rfl rfl rfl rfl (r := .bool true) (by first | (simp [iop, sop, k2]; done) | (simp [iop, sop]; omega) | exact congrArg (fun b => some (Value.bool b)) (decide_eq_true k2)) ?_
        refine US.nil ?_
        repeat (with_reducible first | refine UW.seq ?_ | refine UW.block ?_ | refine UQ.then ?_ | refine UQ.blockN ?_ | refine UW.skip ?_ | refine UW.exit ?_ | refine UQ.pass ?_ | refine UQ.here ?_ | refine UQ.out (by decide) ?_ | refine UW.ret ?_ | refine UQ.passR ?_ | refine UQ.blockR ?_ | refine UW.region ?_)
        refine UW.cond rfl (fun _ => ?_) (fun h => absurd h (by simp))
        repeat (with_reducible first | refine UW.seq ?_ | refine UW.block ?_ | refine UQ.then ?_ | refine UQ.blockN ?_ | refine UW.skip ?_ | refine UW.exit ?_ | refine UQ.pass ?_ | refine UQ.here ?_ | refine UQ.out (by decide) ?_ | refine UW.ret ?_ | refine UQ.passR ?_ | refine UQ.blockR ?_ | refine UW.region ?_)
        refine US.move rfl (by decide) rfl rfl rfl ?_
        refine US.bin_int rfl (by decide) rfl rfl rfl rfl (r := .bool false) (by first | (simp [iop, sop, lo]; done) | (simp [iop, sop]; omega) | exact congrArg (fun b => some (Value.bool b)) (decide_eq_false lo)) ?_
        refine US.move rfl (by decide) rfl rfl rfl ?_
        first | refine US.goff rfl (by decide) rfl rfl rfl rfl ?_ | refine US.goff2 rfl (by decide) rfl rfl rfl ?_ | (refine US.on rfl rfl (by decide) rfl ?_; refine US.move rfl (by decide) rfl rfl rfl ?_)
        first | refine US.goff rfl (by decide) rfl rfl rfl rfl ?_ | refine US.goff2 rfl (by decide) rfl rfl rfl ?_ | (refine US.on rfl rfl (by decide) rfl ?_; refine US.bin_int rfl (by decide) rfl rfl rfl rfl rfl ?_)
        refine US.pick rfl (by decide) rfl rfl rfl rfl ?_
        refine US.assign rfl (by decide) rfl rfl rfl ?_
        refine US.eq (u' := .v (.bool (may k n))) (by simp [may, k2, lo]) ?_
        refine US.nil ?_
        repeat (with_reducible first | refine UW.seq ?_ | refine UW.block ?_ | refine UQ.then ?_ | refine UQ.blockN ?_ | refine UW.skip ?_ | refine UW.exit ?_ | refine UQ.pass ?_ | refine UQ.here ?_ | refine UQ.out (by decide) ?_ | refine UW.ret ?_ | refine UQ.passR ?_ | refine UQ.blockR ?_ | refine UW.region ?_)
        refine US.call_pure rfl (by decide) rfl rfl rfl rfl (fun _ => known_spec _) ?_
        refine US.move rfl (by decide) rfl rfl rfl ?_
        first | refine US.goff rfl (by decide) rfl rfl rfl rfl ?_ | refine US.goff2 rfl (by decide) rfl rfl rfl ?_ | (refine US.on rfl rfl (by decide) rfl ?_; refine US.move rfl (by decide) rfl rfl rfl ?_)
        first | refine US.goff rfl (by decide) rfl rfl rfl rfl ?_ | refine US.goff2 rfl (by decide) rfl rfl rfl ?_ | (refine US.on rfl rfl (by decide) rfl ?_; refine US.move rfl (by decide) rfl rfl rfl ?_)
        first | refine US.goff rfl (by decide) rfl rfl rfl rfl ?_ | refine US.goff2 rfl (by decide) rfl rfl rfl ?_ | (refine US.on rfl rfl (by decide) rfl ?_; refine US.buildN [0, 1] rfl (by decide) rfl rfl bt27 rfl rfl rfl rfl rfl rfl rfl rfl ?_)
        first | refine US.goff rfl (by decide) rfl rfl rfl rfl ?_ | refine US.goff2 rfl (by decide) rfl rfl rfl ?_ | (refine US.on rfl rfl (by decide) rfl ?_; refine US.call_pure rfl (by decide) rfl rfl rfl rfl (fun _ => right_spec' (kn k n) (fits_kn k n) _ hr _) ?_)
        first | refine US.goff rfl (by decide) rfl rfl rfl rfl ?_ | refine US.goff2 rfl (by decide) rfl rfl rfl ?_ | (refine US.on rfl rfl (by decide) rfl ?_; refine US.move rfl (by decide) rfl rfl rfl ?_)
        first | refine US.goff rfl (by decide) rfl rfl rfl rfl ?_ | refine US.goff2 rfl (by decide) rfl rfl rfl ?_ | (refine US.on rfl rfl (by decide) rfl ?_; refine US.bool_eql rfl (by decide) rfl rfl Try.underlying4 rfl rfl ?_)
        refine US.eq (u' := .v (.bool true)) (by simp) ?_
        refine US.pick rfl (by decide) rfl rfl rfl rfl ?_
        refine US.move rfl (by decide) rfl rfl rfl ?_
        first | refine US.goff rfl (by decide) rfl rfl rfl rfl ?_ | refine US.goff2 rfl (by decide) rfl rfl rfl ?_ | (refine US.on rfl rfl (by decide) rfl ?_; refine US.move rfl (by decide) rfl rfl rfl ?_)
        first | refine US.goff rfl (by decide) rfl rfl rfl rfl ?_ | refine US.goff2 rfl (by decide) rfl rfl rfl ?_ | (refine US.on rfl rfl (by decide) rfl ?_; refine US.call_pure rfl (by decide) rfl rfl rfl rfl (fun _ => num_spec n _) ?_)
        first | refine US.goff rfl (by decide) rfl rfl rfl rfl ?_ | refine US.goff2 rfl (by decide) rfl rfl rfl ?_ | (refine US.on rfl rfl (by decide) rfl ?_; first | refine US.field_cell rfl (by decide) rfl rfl rfl ft27_1 rfl ?_ | refine US.field_agg rfl (by decide) rfl rfl rfl ft27_1 rfl ?_)
        first | refine US.goff rfl (by decide) rfl rfl rfl rfl ?_ | refine US.goff2 rfl (by decide) rfl rfl rfl ?_ | (refine US.on rfl rfl (by decide) rfl ?_; refine US.move rfl (by decide) rfl rfl rfl ?_)
        first | refine US.goff rfl (by decide) rfl rfl rfl rfl ?_ | refine US.goff2 rfl (by decide) rfl rfl rfl ?_ | (refine US.on rfl rfl (by decide) rfl ?_; refine US.bin_int rfl (by decide) rfl rfl rfl rfl (r := .bool true) (by simp [iop]) ?_)
        refine US.pick rfl (by decide) rfl rfl rfl rfl ?_
        refine US.move rfl (by decide) rfl rfl rfl ?_
        first | refine US.goff rfl (by decide) rfl rfl rfl rfl ?_ | refine US.goff2 rfl (by decide) rfl rfl rfl ?_ | (refine US.on rfl rfl (by decide) rfl ?_; refine US.move rfl (by decide) rfl rfl rfl ?_)
        first | refine US.goff rfl (by decide) rfl rfl rfl rfl ?_ | refine US.goff2 rfl (by decide) rfl rfl rfl ?_ | (refine US.on rfl rfl (by decide) rfl ?_; refine US.call_pure rfl (by decide) rfl rfl rfl rfl (fun _ => num_spec n _) ?_)
        first | refine US.goff rfl (by decide) rfl rfl rfl rfl ?_ | refine US.goff2 rfl (by decide) rfl rfl rfl ?_ | (refine US.on rfl rfl (by decide) rfl ?_; refine US.call_pure rfl (by decide) rfl rfl rfl rfl (fun _ => right_spec' (numV n) (fits_num n) _ (num_right n) _) ?_)
        first | refine US.goff rfl (by decide) rfl rfl rfl rfl ?_ | refine US.goff2 rfl (by decide) rfl rfl rfl ?_ | (refine US.on rfl rfl (by decide) rfl ?_; refine US.move rfl (by decide) rfl rfl rfl ?_)
        first | refine US.goff rfl (by decide) rfl rfl rfl rfl ?_ | refine US.goff2 rfl (by decide) rfl rfl rfl ?_ | (refine US.on rfl rfl (by decide) rfl ?_; refine US.bin_int rfl (by decide) rfl rfl rfl rfl (r := .bool false) (by first | (simp [iop, sop, lo]; done) | (simp [iop, sop]; omega) | exact congrArg (fun b => some (Value.bool b)) (decide_eq_false lo)) ?_)
        first | refine US.goff rfl (by decide) rfl rfl rfl rfl ?_ | refine US.goff2 rfl (by decide) rfl rfl rfl ?_ | (refine US.on rfl rfl (by decide) rfl ?_; refine US.move rfl (by decide) rfl rfl rfl ?_)
        first | refine US.goff rfl (by decide) rfl rfl rfl rfl ?_ | refine US.goff2 rfl (by decide) rfl rfl rfl ?_ | (refine US.on rfl rfl (by decide) rfl ?_; refine US.move rfl (by decide) rfl rfl rfl ?_)
        first | refine US.goff rfl (by decide) rfl rfl rfl rfl ?_ | refine US.goff2 rfl (by decide) rfl rfl rfl ?_ | (refine US.on rfl rfl (by decide) rfl ?_; refine US.bin_int rfl (by decide) rfl rfl rfl rfl rfl ?_)
        first | refine US.goff rfl (by decide) rfl rfl rfl rfl ?_ | refine US.goff2 rfl (by decide) rfl rfl rfl ?_ | (refine US.on rfl rfl (by decide) rfl ?_; refine US.pick rfl (by decide) rfl rfl rfl rfl ?_)
        first | refine US.goff rfl (by decide) rfl rfl rfl rfl ?_ | refine US.goff2 rfl (by decide) rfl rfl rfl ?_ | (refine US.on rfl rfl (by decide) rfl ?_; refine US.bool_eql rfl (by decide) rfl rfl Try.underlying4 rfl rfl ?_)
        refine US.eq (u' := .v (.bool true)) (by simp [lo]) ?_
        refine US.pick rfl (by decide) rfl rfl rfl rfl ?_
        refine US.assign rfl (by decide) rfl rfl rfl ?_
        refine US.nil ?_
        repeat (with_reducible first | refine UW.seq ?_ | refine UW.block ?_ | refine UQ.then ?_ | refine UQ.blockN ?_ | refine UW.skip ?_ | refine UW.exit ?_ | refine UQ.pass ?_ | refine UQ.here ?_ | refine UQ.out (by decide) ?_ | refine UW.ret ?_ | refine UQ.passR ?_ | refine UQ.blockR ?_ | refine UW.region ?_)
        exact retR [] (fun _ => res_tmp rfl rfl) (by simp) fun hd => ⟨rfl, rfl⟩
      · refine US.move rfl (by decide) rfl rfl rfl ?_
        refine US.bin_int rfl (by decide) rfl rfl rfl rfl (r := .bool false) (by first | (simp [iop, sop, k2]; done) | (simp [iop, sop]; omega) | exact congrArg (fun b => some (Value.bool b)) (decide_eq_false k2)) ?_
        refine US.nil ?_
        repeat (with_reducible first | refine UW.seq ?_ | refine UW.block ?_ | refine UQ.then ?_ | refine UQ.blockN ?_ | refine UW.skip ?_ | refine UW.exit ?_ | refine UQ.pass ?_ | refine UQ.here ?_ | refine UQ.out (by decide) ?_ | refine UW.ret ?_ | refine UQ.passR ?_ | refine UQ.blockR ?_ | refine UW.region ?_)
        refine UW.cond rfl (fun h => absurd h (by simp)) (fun _ => ?_)
        refine UW.keep [(6, .v (.bool (may k n))), (0, .v (.int .i64 n)), (5, .v (.int .i64 k))] [] ⟨?_, rfl, rfl, trivial⟩ (.refl _) ?_
        · rw [show may k n = (n == 0) from by simp [may, k1, k2]]; rfl
        repeat (with_reducible first | refine UW.seq ?_ | refine UW.block ?_ | refine UQ.then ?_ | refine UQ.blockN ?_ | refine UW.skip ?_ | refine UW.exit ?_ | refine UQ.pass ?_ | refine UQ.here ?_ | refine UQ.out (by decide) ?_ | refine UW.ret ?_ | refine UQ.passR ?_ | refine UQ.blockR ?_ | refine UW.region ?_)
        refine US.call_pure rfl (by decide) rfl rfl rfl rfl (fun _ => known_spec _) ?_
        refine US.move rfl (by decide) rfl rfl rfl ?_
        first | refine US.goff rfl (by decide) rfl rfl rfl rfl ?_ | refine US.goff2 rfl (by decide) rfl rfl rfl ?_ | (refine US.on rfl rfl (by decide) rfl ?_; refine US.move rfl (by decide) rfl rfl rfl ?_)
        first | refine US.goff rfl (by decide) rfl rfl rfl rfl ?_ | refine US.goff2 rfl (by decide) rfl rfl rfl ?_ | (refine US.on rfl rfl (by decide) rfl ?_; refine US.move rfl (by decide) rfl rfl rfl ?_)
        first | refine US.goff rfl (by decide) rfl rfl rfl rfl ?_ | refine US.goff2 rfl (by decide) rfl rfl rfl ?_ | (refine US.on rfl rfl (by decide) rfl ?_; refine US.buildN [0, 1] rfl (by decide) rfl rfl bt27 rfl rfl rfl rfl rfl rfl rfl rfl ?_)
        first | refine US.goff rfl (by decide) rfl rfl rfl rfl ?_ | refine US.goff2 rfl (by decide) rfl rfl rfl ?_ | (refine US.on rfl rfl (by decide) rfl ?_; refine US.call_pure rfl (by decide) rfl rfl rfl rfl (fun _ => right_spec' (kn k n) (fits_kn k n) _ hr _) ?_)
        first | refine US.goff rfl (by decide) rfl rfl rfl rfl ?_ | refine US.goff2 rfl (by decide) rfl rfl rfl ?_ | (refine US.on rfl rfl (by decide) rfl ?_; refine US.move rfl (by decide) rfl rfl rfl ?_)
        first | refine US.goff rfl (by decide) rfl rfl rfl rfl ?_ | refine US.goff2 rfl (by decide) rfl rfl rfl ?_ | (refine US.on rfl rfl (by decide) rfl ?_; refine US.bool_eql rfl (by decide) rfl rfl Try.underlying4 rfl rfl ?_)
        refine US.eq (u' := .v (.bool true)) (by simp) ?_
        refine US.pick rfl (by decide) rfl rfl rfl rfl ?_
        refine US.move rfl (by decide) rfl rfl rfl ?_
        first | refine US.goff rfl (by decide) rfl rfl rfl rfl ?_ | refine US.goff2 rfl (by decide) rfl rfl rfl ?_ | (refine US.on rfl rfl (by decide) rfl ?_; refine US.move rfl (by decide) rfl rfl rfl ?_)
        first | refine US.goff rfl (by decide) rfl rfl rfl rfl ?_ | refine US.goff2 rfl (by decide) rfl rfl rfl ?_ | (refine US.on rfl rfl (by decide) rfl ?_; refine US.call_pure rfl (by decide) rfl rfl rfl rfl (fun _ => num_spec n _) ?_)
        first | refine US.goff rfl (by decide) rfl rfl rfl rfl ?_ | refine US.goff2 rfl (by decide) rfl rfl rfl ?_ | (refine US.on rfl rfl (by decide) rfl ?_; first | refine US.field_cell rfl (by decide) rfl rfl rfl ft27_1 rfl ?_ | refine US.field_agg rfl (by decide) rfl rfl rfl ft27_1 rfl ?_)
        first | refine US.goff rfl (by decide) rfl rfl rfl rfl ?_ | refine US.goff2 rfl (by decide) rfl rfl rfl ?_ | (refine US.on rfl rfl (by decide) rfl ?_; refine US.move rfl (by decide) rfl rfl rfl ?_)
        first | refine US.goff rfl (by decide) rfl rfl rfl rfl ?_ | refine US.goff2 rfl (by decide) rfl rfl rfl ?_ | (refine US.on rfl rfl (by decide) rfl ?_; refine US.bin_int rfl (by decide) rfl rfl rfl rfl (r := .bool true) (by simp [iop]) ?_)
        refine US.pick rfl (by decide) rfl rfl rfl rfl ?_
        refine US.move rfl (by decide) rfl rfl rfl ?_
        first | refine US.goff rfl (by decide) rfl rfl rfl rfl ?_ | refine US.goff2 rfl (by decide) rfl rfl rfl ?_ | (refine US.on rfl rfl (by decide) rfl ?_; refine US.move rfl (by decide) rfl rfl rfl ?_)
        first | refine US.goff rfl (by decide) rfl rfl rfl rfl ?_ | refine US.goff2 rfl (by decide) rfl rfl rfl ?_ | (refine US.on rfl rfl (by decide) rfl ?_; refine US.call_pure rfl (by decide) rfl rfl rfl rfl (fun _ => num_spec n _) ?_)
        first | refine US.goff rfl (by decide) rfl rfl rfl rfl ?_ | refine US.goff2 rfl (by decide) rfl rfl rfl ?_ | (refine US.on rfl rfl (by decide) rfl ?_; refine US.call_pure rfl (by decide) rfl rfl rfl rfl (fun _ => right_spec' (numV n) (fits_num n) _ (num_right n) _) ?_)
        first | refine US.goff rfl (by decide) rfl rfl rfl rfl ?_ | refine US.goff2 rfl (by decide) rfl rfl rfl ?_ | (refine US.on rfl rfl (by decide) rfl ?_; refine US.move rfl (by decide) rfl rfl rfl ?_)
        first | refine US.goff rfl (by decide) rfl rfl rfl rfl ?_ | refine US.goff2 rfl (by decide) rfl rfl rfl ?_ | (refine US.on rfl rfl (by decide) rfl ?_; refine US.bin_int rfl (by decide) rfl rfl rfl rfl (r := .bool false) (by first | (simp [iop, sop, lo]; done) | (simp [iop, sop]; omega) | exact congrArg (fun b => some (Value.bool b)) (decide_eq_false lo)) ?_)
        first | refine US.goff rfl (by decide) rfl rfl rfl rfl ?_ | refine US.goff2 rfl (by decide) rfl rfl rfl ?_ | (refine US.on rfl rfl (by decide) rfl ?_; refine US.move rfl (by decide) rfl rfl rfl ?_)
        first | refine US.goff rfl (by decide) rfl rfl rfl rfl ?_ | refine US.goff2 rfl (by decide) rfl rfl rfl ?_ | (refine US.on rfl rfl (by decide) rfl ?_; refine US.move rfl (by decide) rfl rfl rfl ?_)
        first | refine US.goff rfl (by decide) rfl rfl rfl rfl ?_ | refine US.goff2 rfl (by decide) rfl rfl rfl ?_ | (refine US.on rfl rfl (by decide) rfl ?_; refine US.bin_int rfl (by decide) rfl rfl rfl rfl rfl ?_)
        first | refine US.goff rfl (by decide) rfl rfl rfl rfl ?_ | refine US.goff2 rfl (by decide) rfl rfl rfl ?_ | (refine US.on rfl rfl (by decide) rfl ?_; refine US.pick rfl (by decide) rfl rfl rfl rfl ?_)
        first | refine US.goff rfl (by decide) rfl rfl rfl rfl ?_ | refine US.goff2 rfl (by decide) rfl rfl rfl ?_ | (refine US.on rfl rfl (by decide) rfl ?_; refine US.bool_eql rfl (by decide) rfl rfl Try.underlying4 rfl rfl ?_)
        refine US.eq (u' := .v (.bool true)) (by simp [lo]) ?_
        refine US.pick rfl (by decide) rfl rfl rfl rfl ?_
        refine US.assign rfl (by decide) rfl rfl rfl ?_
        refine US.nil ?_
        repeat (with_reducible first | refine UW.seq ?_ | refine UW.block ?_ | refine UQ.then ?_ | refine UQ.blockN ?_ | refine UW.skip ?_ | refine UW.exit ?_ | refine UQ.pass ?_ | refine UQ.here ?_ | refine UQ.out (by decide) ?_ | refine UW.ret ?_ | refine UQ.passR ?_ | refine UQ.blockR ?_ | refine UW.region ?_)
        exact retR [] (fun _ => res_tmp rfl rfl) (by simp) fun hd => ⟨rfl, rfl⟩
end Go.Proofs.Ytopaddebalfoeaa
