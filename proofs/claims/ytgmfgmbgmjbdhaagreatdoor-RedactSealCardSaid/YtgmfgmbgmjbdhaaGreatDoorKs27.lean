/- The document's reader, as far as one text wants it. -/
import Derived.Test.YtgmfgmbgmjbdhaaGreatDoorKs14
import Derived.Test.YtgmfgmbgmjbdhaaGreatDoorKs20
import Derived.Test.YtgmfgmbgmjbdhaaGreatDoorKs25
import Derived.Test.YtgmfgmbgmjbdhaaGreatDoorKs21
namespace Go.Proofs.YtgmfgmbgmjbdhaaGreatDoor
open Go Go.RowKit Go.Eng
set_option linter.unusedSimpArgs false
set_option linter.unusedVariables false
set_option maxRecDepth 100000
set_option maxHeartbeats 4000000
def rdA (s : ByteArray) (p d : Nat) : List AV := [.v (.string s), .v (.int .i64 (p : Int)), .v (.int .i64 0), .v (.int .i64 (d : Int))]
def isB (s : ByteArray) (p : Nat) (c : Int) : Bool := decide ((p : Int) < s.size) && (bAt s (p : Int) == c)
theorem is_spec (s : ByteArray) (p d : Nat) (c : Int) (hs : s.size ≤ 1000000) (H : Hp) : ACall Tryz.prog 106 [.agg (rdA s p d), .v (.int .u8 c)] H (IsR H (.v (.bool (isB s p c)))) := by
  by_cases hlt : (p : Int) < s.size
  · have h1 : isB s p c = (bAt s (p : Int) == c) := by unfold isB; rw [decide_eq_true hlt, Bool.true_and]
    rw [h1]
    refine UCall (n := 25) (H0 := H) (objs := []) Tryz.func106 (by kernel_rfl) rfl (by rw [Tryz.ntmps106]; rfl) .nil ?_
    focus
      refine S.sq (S.rg ?_)
      refine S.dd (D.box rfl rfl rfl (fun p2 => ?_))
      refine S.qu (Z.as rfl) ?_
      refine US.nil (UQ.then (S.sq (S.rg ?_)))
      refine S.qu (Z.fa f68_2 rfl) ?_
      refine S.qu (Z.ldc 0 ty3 rfl rfl rfl) ?_
      refine S.qu (Z.bi rfl rfl rfl) ?_
      refine S.qu (Z.mv rfl) ?_
      refine S.tE 8 (fun hc8 => ?_) (fun hc8 => ?_)
      rotate_left
      omega
      refine S.qu (Z.on (Z.fa f68_1 rfl)) ?_
      refine S.qu (Z.on (Z.ldc 0 ty3 rfl rfl rfl)) ?_
      refine S.qu (Z.on (Z.fa f68_0 rfl)) ?_
      refine S.qu (Z.on (Z.ldc 0 ty9 rfl rfl rfl)) ?_
      refine S.qu (Z.on (Z.lnt Tryz.underlying9 rfl)) ?_
      refine S.qu (Z.on (Z.bi rfl rfl rfl)) ?_
      refine S.qu (Z.pick rfl rfl) ?_
      refine S.qu (Z.mv rfl) ?_
      refine S.tD 16 (fun hc16 => ?_) (fun hc16 => ?_)
      rotate_left
      omega
      refine S.qu (Z.on (Z.fa f68_0 rfl)) ?_
      refine S.qu (Z.on (Z.ldc 0 ty9 rfl rfl rfl)) ?_
      refine S.qu (Z.on (Z.fa f68_1 rfl)) ?_
      refine S.qu (Z.on (Z.ldc 0 ty3 rfl rfl rfl)) ?_
      refine S.dd (D.on (D.ib Tryz.underlying9 rfl rfl (by omega) (by omega) (fun h21 => ?_)))
      refine S.qu (Z.on (Z.mv rfl)) ?_
      refine S.qu (Z.on (Z.bi rfl rfl rfl)) ?_
      refine S.qu (Z.pick rfl rfl) ?_
      refine S.qu (Z.as rfl) ?_
      refine US.nil (UQ.then (UW.ret ?_))
      refine S.rtR (fun _ => res_tmp rfl rfl) ?_
      rfl
  · have h1 : isB s p c = false := by unfold isB; rw [decide_eq_false hlt, Bool.false_and]
    rw [h1]
    refine UCall (n := 25) (H0 := H) (objs := []) Tryz.func106 (by kernel_rfl) rfl (by rw [Tryz.ntmps106]; rfl) .nil ?_
    focus
      refine S.sq (S.rg ?_)
      refine S.dd (D.box rfl rfl rfl (fun p2 => ?_))
      refine S.qu (Z.as rfl) ?_
      refine US.nil (UQ.then (S.sq (S.rg ?_)))
      refine S.qu (Z.fa f68_2 rfl) ?_
      refine S.qu (Z.ldc 0 ty3 rfl rfl rfl) ?_
      refine S.qu (Z.bi rfl rfl rfl) ?_
      refine S.qu (Z.mv rfl) ?_
      refine S.tE 8 (fun hc8 => ?_) (fun hc8 => ?_)
      rotate_left
      omega
      refine S.qu (Z.on (Z.fa f68_1 rfl)) ?_
      refine S.qu (Z.on (Z.ldc 0 ty3 rfl rfl rfl)) ?_
      refine S.qu (Z.on (Z.fa f68_0 rfl)) ?_
      refine S.qu (Z.on (Z.ldc 0 ty9 rfl rfl rfl)) ?_
      refine S.qu (Z.on (Z.lnt Tryz.underlying9 rfl)) ?_
      refine S.qu (Z.on (Z.bi rfl rfl rfl)) ?_
      refine S.qu (Z.pick rfl rfl) ?_
      refine S.qu (Z.mv rfl) ?_
      refine S.tF 16 (decide_eq_false (by omega)) ?_
      refine S.qu (Z.of) ?_
      refine S.qu (Z.of) ?_
      refine S.qu (Z.of) ?_
      refine S.qu (Z.of) ?_
      refine S.qu (Z.of) ?_
      refine S.qu (Z.of) ?_
      refine S.qu (Z.of) ?_
      refine S.qu (Z.pick rfl rfl) ?_
      refine S.qu (Z.as rfl) ?_
      refine US.nil (UQ.then (UW.ret ?_))
      refine S.rtR (fun _ => res_tmp rfl rfl) ?_
      rfl
theorem blanks_spec (s : ByteArray) (p d : Nat) (hs : s.size ≤ 1000000) (h1 : isB s p 32 = false) (h2 : isB s p 9 = false) (h3 : isB s p 10 = false) (h4 : isB s p 13 = false) (H : Hp) : ACall Tryz.prog 70 [.agg (rdA s p d)] H (IsR H (.agg (rdA s p d))) := by
  have hi : ∀ c H, ACall Tryz.prog 106 [.agg (rdA s p d), .v (.int .u8 c)] H (IsR H (.v (.bool (isB s p c)))) := fun c H => is_spec s p d c hs H
  refine UCall (n := 22) (H0 := H) (objs := []) Tryz.func70 (by kernel_rfl) rfl (by rw [Tryz.ntmps70]; rfl) .nil ?_
  refine S.sq (S.rg ?_)
  refine S.dd (D.box rfl rfl rfl (fun p1 => ?_))
  refine S.dd (D.al z68 rfl rfl rfl (fun p2 => ?_))
  refine US.nil (UQ.then (S.sq (UW.block ?_)))
  refine S.loop (fun _ : Nat => [(1, .ptr p1 0), (2, .ptr p2 0)]) (fun _ => [(p2, .box 68 [.v (.string ⟨#[]⟩), .v (.int .i64 0), .v (.int .i64 0), .v (.int .i64 0)]), (p1, .box 68 (rdA s p d))]) (fun _ => True) (fun j => j) 0 trivial ⟨rfl, rfl, trivial⟩ (.refl _) ?_
  intro j _
  refine S.sq (S.sq (S.rg ?_))
  refine S.qu (Z.ldw 1 ty68 rfl rfl rfl) ?_
  refine S.qu (Z.tF (Z.call rfl rfl (fun H => hi 32 H)) h1) ?_
  refine S.qu (Z.mv rfl) ?_
  refine S.qu (Z.on (Z.ldw 1 ty68 rfl rfl rfl)) ?_
  refine S.qu (Z.on (Z.tF (Z.call rfl rfl (fun H => hi 9 H)) h2)) ?_
  refine S.qu (Z.pick rfl rfl) ?_
  refine S.qu (Z.mv rfl) ?_
  refine S.qu (Z.on (Z.ldw 1 ty68 rfl rfl rfl)) ?_
  refine S.qu (Z.on (Z.tF (Z.call rfl rfl (fun H => hi 10 H)) h3)) ?_
  refine S.qu (Z.pick rfl rfl) ?_
  refine S.qu (Z.mv rfl) ?_
  refine S.qu (Z.on (Z.ldw 1 ty68 rfl rfl rfl)) ?_
  refine S.qu (Z.on (Z.tF (Z.call rfl rfl (fun H => hi 13 H)) h4)) ?_
  refine S.qu (Z.pick rfl rfl) ?_
  refine US.nil (UQ.then ?_)
  refine S.cF rfl rfl ?_
  refine UW.exit (UQ.pass (UQ.pass (UQ.here (UQ.then (S.sq (S.rg ?_))))))
  refine S.qu (Z.ldw 1 ty68 rfl rfl rfl) ?_
  refine S.s (D.st 0 ty68 rfl rfl rfl rfl rfl rfl rfl rfl (fun _ => ?_))
  refine US.nil (UQ.then (UW.ret ?_))
  refine S.rtR (fun hd => res_cell (k := 0) hd rfl rfl rfl st68 sz68) ?_
  rfl
theorem need_spec (s : ByteArray) (p d : Nat) (c : Int) (hs : s.size ≤ 1000000) (hp : p ≤ 1000000) (h1 : isB s p c = true) (H : Hp) : ACall Tryz.prog 132 [.agg (rdA s p d), .v (.int .u8 c)] H (IsR H (.agg (rdA s (p + 1) d))) := by
  have hi : ∀ c H, ACall Tryz.prog 106 [.agg (rdA s p d), .v (.int .u8 c)] H (IsR H (.v (.bool (isB s p c)))) := fun c H => is_spec s p d c hs H
  have hn : (!isB s p c) = false := by rw [h1]; rfl
  refine UCall (n := 20) (H0 := H) (objs := []) Tryz.func132 (by kernel_rfl) rfl (by rw [Tryz.ntmps132]; rfl) .nil ?_
  refine S.sq (S.rg ?_)
  refine S.dd (D.box rfl rfl rfl (fun p2 => ?_))
  refine S.dd (D.al z68 rfl rfl rfl (fun p4 => ?_))
  refine US.nil (UQ.then (S.sq (S.sq (S.rg ?_))))
  refine S.qu (Z.fa f68_2 rfl) ?_
  refine S.qu (Z.ldc 1 ty3 rfl rfl rfl) ?_
  refine S.qu (Z.bi rfl rfl rfl) ?_
  refine US.nil (UQ.then ?_)
  refine S.cF rfl (bne_f (by omega)) ?_
  refine UW.skip (UQ.then (S.sq (S.sq (S.rg ?_))))
  refine S.qu (Z.ldw 1 ty68 rfl rfl rfl) ?_
  refine S.qu (Z.mv rfl) ?_
  refine S.qu (Z.tT (Z.call rfl rfl (fun H => hi c H)) h1) ?_
  refine S.qu (Z.not rfl) ?_
  refine US.nil (UQ.then ?_)
  refine S.cF rfl rfl ?_
  refine UW.skip (UQ.then (S.sq (S.rg ?_)))
  refine S.qu (Z.fa f68_1 rfl) ?_
  refine S.qu (Z.ldc 1 ty3 rfl rfl rfl) ?_
  refine S.qu (Z.add (r := ((p + 1 : Nat) : Int)) rfl rfl (IntWalk.i64_in _ (by omega))) ?_
  refine S.qu (Z.fa f68_1 rfl) ?_
  refine S.s (D.st 1 ty3 rfl rfl rfl rfl rfl rfl rfl rfl (fun _ => ?_))
  refine US.nil (UQ.then (S.sq (S.rg ?_)))
  refine S.qu (Z.ldw 1 ty68 rfl rfl rfl) ?_
  refine S.s (D.st 0 ty68 rfl rfl rfl rfl rfl rfl rfl rfl (fun _ => ?_))
  refine US.nil (UQ.then (UW.ret ?_))
  refine S.rtR (fun hd => res_cell (k := 0) hd rfl rfl rfl st68 sz68) ?_
  rfl
theorem digits1_spec (s : ByteArray) (p d : Nat) (hs : s.size ≤ 1000000) (hp : p + 1 < s.size) (h0 : 48 ≤ bAt s (p : Int) ∧ bAt s (p : Int) ≤ 57) (h1 : bAt s ((p + 1 : Nat) : Int) < 48 ∨ 57 < bAt s ((p + 1 : Nat) : Int)) (H : Hp) : ACall Tryz.prog 109 [.agg (rdA s p d), .v (.int .i64 (p : Int))] H (IsR H (.v (.int .i64 1))) := by
  refine UCall (n := 34) (H0 := H) (objs := []) Tryz.func109 (by kernel_rfl) rfl (by rw [Tryz.ntmps109]; rfl) .nil ?_
  refine S.sq (S.rg ?_)
  refine S.dd (D.box rfl rfl rfl (fun p2 => ?_))
  refine S.qu (Z.as rfl) ?_
  refine US.nil (UQ.then (S.sq (S.rg ?_)))
  refine S.qu (Z.as rfl) ?_
  refine US.nil (UQ.then (S.sq (UW.block ?_)))
  refine S.loop (fun j : Nat => [(5, .v (.int .i64 (j : Int))), (2, .ptr p2 0), (1, .v (.int .i64 (p : Int)))]) (fun _ => [(p2, .box 68 (rdA s p d))]) (fun j => j ≤ 1) (fun j => 1 - j) 0 (Nat.zero_le _) ⟨rfl, rfl, rfl, trivial⟩ (.refl _) ?_
  intro j hj
  by_cases hj0 : j = 0
  · subst hj0
    focus
      refine S.sq (S.sq (S.rg ?_))
      refine S.qu (Z.mv rfl) ?_
      refine S.qu (Z.mv rfl) ?_
      refine S.qu (Z.add (r := (p : Int)) rfl rfl (by show IntKind.i64.wrap ((p : Int) + 0) = _; rw [Int.add_zero]; exact IntWalk.i64_in _ (by omega))) ?_
      refine S.qu (Z.fa f68_0 rfl) ?_
      refine S.qu (Z.ldc 0 ty9 rfl rfl rfl) ?_
      refine S.qu (Z.lnt Tryz.underlying9 rfl) ?_
      refine S.qu (Z.bi rfl rfl rfl) ?_
      refine S.qu (Z.mv rfl) ?_
      refine S.tD 13 (fun hc13 => ?_) (fun hc13 => ?_)
      rotate_left
      omega
      refine S.qu (Z.on (Z.fa f68_0 rfl)) ?_
      refine S.qu (Z.on (Z.ldc 0 ty9 rfl rfl rfl)) ?_
      refine S.qu (Z.on (Z.mv rfl)) ?_
      refine S.qu (Z.on (Z.mv rfl)) ?_
      refine S.qu (Z.on (Z.add (r := (p : Int)) rfl rfl (by show IntKind.i64.wrap ((p : Int) + 0) = _; rw [Int.add_zero]; exact IntWalk.i64_in _ (by omega)))) ?_
      refine S.dd (D.on (D.ib Tryz.underlying9 rfl rfl (by omega) (by omega) (fun h19 => ?_)))
      refine S.qu (Z.on (Z.bi rfl rfl rfl)) ?_
      refine S.qu (Z.pick rfl rfl) ?_
      refine S.qu (Z.mv rfl) ?_
      refine S.tD 22 (fun hc22 => ?_) (fun hc22 => ?_)
      rotate_left
      omega
      refine S.qu (Z.on (Z.fa f68_0 rfl)) ?_
      refine S.qu (Z.on (Z.ldc 0 ty9 rfl rfl rfl)) ?_
      refine S.qu (Z.on (Z.mv rfl)) ?_
      refine S.qu (Z.on (Z.mv rfl)) ?_
      refine S.qu (Z.on (Z.add (r := (p : Int)) rfl rfl (by show IntKind.i64.wrap ((p : Int) + 0) = _; rw [Int.add_zero]; exact IntWalk.i64_in _ (by omega)))) ?_
      refine S.dd (D.on (D.ib Tryz.underlying9 rfl rfl (by omega) (by omega) (fun h28 => ?_)))
      refine S.qu (Z.on (Z.bi rfl rfl rfl)) ?_
      refine S.qu (Z.pick rfl rfl) ?_
      refine US.nil (UQ.then ?_)
      refine S.cT rfl (decide_eq_true (by omega)) ?_
      refine UW.skip (UQ.then (UW.block (S.rg ?_)))
      refine S.qu (Z.mv rfl) ?_
      refine S.qu (Z.add (r := ((1 : Nat) : Int)) rfl rfl rfl) ?_
      refine S.qu (Z.as rfl) ?_
      refine US.nil (UQ.blockN ?_)
      refine S.back 1 ⟨rfl, rfl, rfl, trivial⟩ (.refl _) (by omega) (by omega)
  · have hj1 : j = 1 := by omega
    subst hj1
    focus
      refine S.sq (S.sq (S.rg ?_))
      refine S.qu (Z.mv rfl) ?_
      refine S.qu (Z.mv rfl) ?_
      refine S.qu (Z.add (r := ((p + 1 : Nat) : Int)) rfl rfl (IntWalk.i64_in _ (by omega))) ?_
      refine S.qu (Z.fa f68_0 rfl) ?_
      refine S.qu (Z.ldc 0 ty9 rfl rfl rfl) ?_
      refine S.qu (Z.lnt Tryz.underlying9 rfl) ?_
      refine S.qu (Z.bi rfl rfl rfl) ?_
      refine S.qu (Z.mv rfl) ?_
      refine S.tD 13 (fun hc13 => ?_) (fun hc13 => ?_)
      rotate_left
      omega
      refine S.qu (Z.on (Z.fa f68_0 rfl)) ?_
      refine S.qu (Z.on (Z.ldc 0 ty9 rfl rfl rfl)) ?_
      refine S.qu (Z.on (Z.mv rfl)) ?_
      refine S.qu (Z.on (Z.mv rfl)) ?_
      refine S.qu (Z.on (Z.add (r := ((p + 1 : Nat) : Int)) rfl rfl (IntWalk.i64_in _ (by omega)))) ?_
      refine S.dd (D.on (D.ib Tryz.underlying9 rfl rfl (by omega) (by omega) (fun h19 => ?_)))
      refine S.qu (Z.on (Z.bi rfl rfl rfl)) ?_
      refine S.qu (Z.pick rfl rfl) ?_
      refine S.qu (Z.mv rfl) ?_
      refine S.tD 22 (fun hc22 => ?_) (fun hc22 => ?_)
      refine S.qu (Z.on (Z.fa f68_0 rfl)) ?_
      refine S.qu (Z.on (Z.ldc 0 ty9 rfl rfl rfl)) ?_
      refine S.qu (Z.on (Z.mv rfl)) ?_
      refine S.qu (Z.on (Z.mv rfl)) ?_
      refine S.qu (Z.on (Z.add (r := ((p + 1 : Nat) : Int)) rfl rfl (IntWalk.i64_in _ (by omega)))) ?_
      refine S.dd (D.on (D.ib Tryz.underlying9 rfl rfl (by omega) (by omega) (fun h28 => ?_)))
      refine S.qu (Z.on (Z.bi rfl rfl rfl)) ?_
      refine S.qu (Z.pick rfl rfl) ?_
      refine US.nil (UQ.then ?_)
      refine S.cF rfl (decide_eq_false (by omega)) ?_
      refine UW.exit (UQ.pass (UQ.pass (UQ.here (UQ.then (S.sq (S.rg ?_))))))
      refine S.qu (Z.mv rfl) ?_
      refine S.qu (Z.as rfl) ?_
      refine US.nil (UQ.then (UW.ret ?_))
      refine S.rtR (fun _ => res_tmp rfl rfl) ?_
      rfl
      refine S.qu (Z.of) ?_
      refine S.qu (Z.of) ?_
      refine S.qu (Z.of) ?_
      refine S.qu (Z.of) ?_
      refine S.qu (Z.of) ?_
      refine S.qu (Z.of) ?_
      refine S.qu (Z.of) ?_
      refine S.qu (Z.pick rfl rfl) ?_
      refine US.nil (UQ.then ?_)
      refine S.cF rfl rfl ?_
      refine UW.exit (UQ.pass (UQ.pass (UQ.here (UQ.then (S.sq (S.rg ?_))))))
      refine S.qu (Z.mv rfl) ?_
      refine S.qu (Z.as rfl) ?_
      refine US.nil (UQ.then (UW.ret ?_))
      refine S.rtR (fun _ => res_tmp rfl rfl) ?_
      rfl
theorem number1_spec (s : ByteArray) (p d : Nat) (hs : s.size ≤ 1000000) (hp : p + 1 < s.size) (hm : isB s p 45 = false) (h0 : 48 ≤ bAt s (p : Int) ∧ bAt s (p : Int) ≤ 57) (h1 : bAt s ((p + 1 : Nat) : Int) < 46 ∨ 57 < bAt s ((p + 1 : Nat) : Int)) (h2 : ¬ bAt s ((p + 1 : Nat) : Int) = 101) (h3 : ¬ bAt s ((p + 1 : Nat) : Int) = 69) (n : Int) (hn : bAt s (p : Int) = 48 + n) (H : Hp) : ACall Tryz.prog 110 [.agg (rdA s p d)] H (IsR H (.tup [.agg (rdA s (p + 1) d), .agg (encV (numV n))])) := by
  have hi : ∀ H, ACall Tryz.prog 106 [.agg (rdA s p d), .v (.int .u8 45)] H (IsR H (.v (.bool (isB s p 45)))) := fun H => is_spec s p d 45 hs H
  refine UCall (n := 118) (H0 := H) (objs := []) Tryz.func110 (by kernel_rfl) rfl (by rw [Tryz.ntmps110]; rfl) .nil ?_
  focus
    refine S.sq (S.rg ?_)
    refine S.dd (D.box rfl rfl rfl (fun p1 => ?_))
    refine S.dd (D.al z68 rfl rfl rfl (fun p2 => ?_))
    refine S.dd (D.al z26 rfl rfl rfl (fun p3 => ?_))
    refine US.nil (UQ.then (S.sq (S.rg ?_)))
    refine S.qu (Z.fa f68_1 rfl) ?_
    refine S.qu (Z.ldc 2 ty3 rfl rfl rfl) ?_
    refine S.qu (Z.as rfl) ?_
    refine US.nil (UQ.then (S.sq (S.sq (S.rg ?_))))
    refine S.qu (Z.ldw 2 ty68 rfl rfl rfl) ?_
    refine S.qu (Z.tF (Z.call rfl rfl (fun H => hi H)) hm) ?_
    refine US.nil (UQ.then ?_)
    refine S.cF rfl rfl ?_
    refine UW.skip (UQ.then (S.sq (S.rg ?_)))
    refine S.qu (Z.ldw 2 ty68 rfl rfl rfl) ?_
    refine S.qu (Z.mv rfl) ?_
    refine S.qu (Z.call rfl rfl (fun H => digits1_spec s p d hs hp h0 (by omega) H)) ?_
    refine S.qu (Z.as rfl) ?_
    refine US.nil (UQ.then (S.sq (S.sq (S.rg ?_))))
    refine S.qu (Z.mv rfl) ?_
    refine S.qu (Z.bi rfl rfl rfl) ?_
    refine S.qu (Z.mv rfl) ?_
    refine S.tE 20 (fun hc20 => ?_) (fun hc20 => ?_)
    omega
    refine S.qu (Z.on (Z.mv rfl)) ?_
    refine S.qu (Z.on (Z.bi rfl rfl rfl)) ?_
    refine S.qu (Z.on (Z.mv rfl)) ?_
    refine S.tF 23 (decide_eq_false (by omega)) ?_
    refine S.qu (Z.of) ?_
    refine S.qu (Z.of) ?_
    refine S.qu (Z.of) ?_
    refine S.qu (Z.of) ?_
    refine S.qu (Z.of) ?_
    refine S.qu (Z.on (Z.pick rfl rfl)) ?_
    refine S.qu (Z.pick rfl rfl) ?_
    refine S.qu (Z.mv rfl) ?_
    refine S.qu (Z.on (Z.mv rfl)) ?_
    refine S.qu (Z.on (Z.fa f68_1 rfl)) ?_
    refine S.qu (Z.on (Z.ldc 2 ty3 rfl rfl rfl)) ?_
    refine S.qu (Z.on (Z.bi rfl rfl rfl)) ?_
    refine S.qu (Z.on (Z.mv rfl)) ?_
    refine S.tD 36 (fun hc36 => ?_) (fun hc36 => ?_)
    omega
    refine S.qu (Z.of) ?_
    refine S.qu (Z.of) ?_
    refine S.qu (Z.on (Z.pick rfl rfl)) ?_
    refine S.qu (Z.on (Z.mv rfl)) ?_
    refine S.qu (Z.of) ?_
    refine S.qu (Z.of) ?_
    refine S.qu (Z.of) ?_
    refine S.qu (Z.of) ?_
    refine S.qu (Z.of) ?_
    refine S.qu (Z.on (Z.pick rfl rfl)) ?_
    refine S.qu (Z.pick rfl rfl) ?_
    refine US.nil (UQ.then ?_)
    refine S.cF rfl rfl ?_
    refine UW.skip (UQ.then (S.sq (S.rg ?_)))
    refine S.qu (Z.mv rfl) ?_
    refine S.qu (Z.mv rfl) ?_
    refine S.qu (Z.add (r := ((p + 1 : Nat) : Int)) rfl rfl (IntWalk.i64_in _ (by omega))) ?_
    refine S.qu (Z.as rfl) ?_
    refine US.nil (UQ.then (S.sq (S.sq (S.rg ?_))))
    refine S.qu (Z.mv rfl) ?_
    refine S.qu (Z.fa f68_0 rfl) ?_
    refine S.qu (Z.ldc 2 ty9 rfl rfl rfl) ?_
    refine S.qu (Z.lnt Tryz.underlying9 rfl) ?_
    refine S.qu (Z.bi rfl rfl rfl) ?_
    refine S.qu (Z.mv rfl) ?_
    refine S.tD 59 (fun hc59 => ?_) (fun hc59 => ?_)
    rotate_left
    omega
    refine S.qu (Z.on (Z.fa f68_0 rfl)) ?_
    refine S.qu (Z.on (Z.ldc 2 ty9 rfl rfl rfl)) ?_
    refine S.qu (Z.on (Z.mv rfl)) ?_
    refine S.dd (D.on (D.ib Tryz.underlying9 rfl rfl (by omega) (by omega) (fun h63 => ?_)))
    refine S.qu (Z.on (Z.bi rfl rfl rfl)) ?_
    refine S.qu (Z.on (Z.mv rfl)) ?_
    refine S.tE 65 (fun hc65 => ?_) (fun hc65 => ?_)
    omega
    refine S.qu (Z.on (Z.fa f68_0 rfl)) ?_
    refine S.qu (Z.on (Z.ldc 2 ty9 rfl rfl rfl)) ?_
    refine S.qu (Z.on (Z.mv rfl)) ?_
    refine S.dd (D.on (D.ib Tryz.underlying9 rfl rfl (by omega) (by omega) (fun h69 => ?_)))
    refine S.qu (Z.on (Z.bi rfl rfl rfl)) ?_
    refine S.qu (Z.on (Z.pick rfl rfl)) ?_
    refine S.qu (Z.on (Z.mv rfl)) ?_
    refine S.tE 72 (fun hc72 => ?_) (fun hc72 => ?_)
    omega
    refine S.qu (Z.on (Z.fa f68_0 rfl)) ?_
    refine S.qu (Z.on (Z.ldc 2 ty9 rfl rfl rfl)) ?_
    refine S.qu (Z.on (Z.mv rfl)) ?_
    refine S.dd (D.on (D.ib Tryz.underlying9 rfl rfl (by omega) (by omega) (fun h76 => ?_)))
    refine S.qu (Z.on (Z.bi rfl rfl rfl)) ?_
    refine S.qu (Z.on (Z.pick rfl rfl)) ?_
    refine S.qu (Z.pick rfl rfl) ?_
    refine S.qu (Z.mv rfl) ?_
    refine S.tE 80 (fun hc80 => ?_) (fun hc80 => ?_)
    omega
    refine S.qu (Z.on (Z.mv rfl)) ?_
    refine S.qu (Z.on (Z.bi rfl rfl rfl)) ?_
    refine S.qu (Z.pick rfl rfl) ?_
    refine US.nil (UQ.then ?_)
    refine S.cF rfl (decide_eq_false (by omega)) ?_
    refine UW.skip (UQ.then (S.sq (S.rg ?_)))
    refine S.qu (Z.as rfl) ?_
    refine US.nil (UQ.then (S.sq (S.sq (S.rg ?_))))
    refine S.qu (Z.mv rfl) ?_
    refine S.qu (Z.as rfl) ?_
    refine US.nil (UQ.then (UW.block ?_))
  refine S.loop (fun j : Nat => [(8, .v (.int .i64 ((p + j : Nat) : Int))), (7, .v (.int .i64 (if j = 0 then 0 else n))), (6, .v (.int .i64 ((p + 1 : Nat) : Int))), (4, .v (.int .i64 (p : Int))), (3, .ptr p3 0), (2, .ptr p2 0), (1, .ptr p1 0)]) (fun _ => [(p3, .box 26 (encV zeroV)), (p2, .box 68 [.v (.string ⟨#[]⟩), .v (.int .i64 0), .v (.int .i64 0), .v (.int .i64 0)]), (p1, .box 68 (rdA s p d))]) (fun j => j ≤ 1) (fun j => 1 - j) 0 (Nat.zero_le _) ⟨rfl, rfl, rfl, rfl, rfl, rfl, rfl, trivial⟩ (.refl _) ?_
  intro j hj
  by_cases hj0 : j = 0
  · subst hj0
    rw [if_pos rfl]
    refine S.sq (S.sq (S.rg ?_))
    refine S.qu (Z.mv rfl) ?_
    refine S.qu (Z.mv rfl) ?_
    refine S.qu (Z.bi rfl rfl rfl) ?_
    refine US.nil (UQ.then ?_)
    refine S.cT rfl (decide_eq_true (by omega)) ?_
    refine UW.skip (UQ.then (S.sq (UW.block (S.rg ?_))))
    refine S.qu (Z.mv rfl) ?_
    refine S.qu (Z.mul (r := 0) rfl rfl rfl) ?_
    refine S.qu (Z.fa f68_0 rfl) ?_
    refine S.qu (Z.ldc 2 ty9 rfl rfl rfl) ?_
    refine S.qu (Z.mv rfl) ?_
    refine S.dd (D.ib Tryz.underlying9 rfl rfl (by omega) (by omega) (fun h98 => ?_))
    refine S.qu (Z.sub (r := n) rfl rfl (by show IntKind.u8.wrap (bAt s (p : Int) - 48) = n; rw [hn, IntWalk.u8_in _ (by omega)]; omega)) ?_
    refine S.qu (Z.cv Tryz.underlying2 rfl (IntWalk.i64_in _ (by omega)) (by rw [Tryz.underlying5]; rfl)) ?_
    refine S.qu (Z.add (r := n) rfl rfl (by rw [Int.zero_add]; exact IntWalk.i64_in _ (by omega))) ?_
    refine S.qu (Z.as rfl) ?_
    refine US.nil (UQ.blockN (UQ.then (S.rg ?_)))
    refine S.qu (Z.mv rfl) ?_
    refine S.qu (Z.add (r := ((p + 1 : Nat) : Int)) rfl rfl (IntWalk.i64_in _ (by omega))) ?_
    refine S.qu (Z.as rfl) ?_
    refine US.nil ?_
    refine S.back 1 ⟨rfl, rfl, rfl, rfl, rfl, rfl, rfl, trivial⟩ (.refl _) (by omega) (by omega)
  · have hj1 : j = 1 := by omega
    subst hj1
    rw [if_neg hj0]
    refine S.sq (S.sq (S.rg ?_))
    refine S.qu (Z.mv rfl) ?_
    refine S.qu (Z.mv rfl) ?_
    refine S.qu (Z.bi rfl rfl rfl) ?_
    refine US.nil (UQ.then ?_)
    refine S.cF rfl (decide_eq_false (by omega)) ?_
    refine UW.exit (UQ.pass (UQ.pass (UQ.here (UQ.then (S.sq (S.sq (S.rg ?_)))))))
    refine S.qu (Z.mv rfl) ?_
    refine S.qu (Z.bi rfl rfl rfl) ?_
    refine US.nil (UQ.then ?_)
    refine S.cF rfl (decide_eq_false (by omega)) ?_
    refine UW.skip (UQ.then (S.sq (S.sq (S.rg ?_))))
    refine S.qu (Z.mv rfl) ?_
    refine S.qu (Z.fa f68_1 rfl) ?_
    refine S.qu (Z.ldc 2 ty3 rfl rfl rfl) ?_
    refine S.qu (Z.bi rfl rfl rfl) ?_
    refine US.nil (UQ.then ?_)
    refine S.cF rfl (decide_eq_false (by omega)) ?_
    refine UW.skip (UQ.then (S.sq (S.rg ?_)))
    refine S.qu (Z.mv rfl) ?_
    refine S.qu (Z.fa f68_1 rfl) ?_
    refine S.s (D.st 2 ty3 rfl rfl rfl rfl rfl rfl rfl rfl (fun _ => ?_))
    refine US.nil (UQ.then (S.sq ?_))
    refine' UW.draw' (by kernel_rfl) [0, 0, 2, 7, 15] [some 115, some 116, some 117, none, none] [some (115, _), some (116, _), some (117, _), none, none] [3, 4] [0] rfl (by decide) (by decide) (QAll.held (by decide) rfl rfl ?q12x0_0 (QAll.free (by decide) rfl rfl ?q12x0_1 (QAll.free (by decide) rfl rfl ?q12x0_2 (QAll.skip (QAll.skip QAll.nil))))) ?q12x0_k
    case q12x0_0 => exact Z.ldw 2 ty68 rfl rfl rfl
    case q12x0_1 => (intro _; exact Z.mv rfl)
    case q12x0_2 => (intro _; exact Z.call rfl rfl (fun H => numR_spec n H))
    refine CH.cons0 rfl rfl ?_
    refine D.st 1 ty68 rfl rfl rfl rfl rfl rfl rfl rfl (fun _ => ?_)
    refine CH.cons0 rfl rfl ?_
    refine D.st 0 ty26 rfl rfl rfl rfl rfl rfl rfl rfl (fun _ => ?_)
    refine CH.nil ?_
    simp only [app, finL]
    refine UQ.then (UW.ret ?_)
    refine S.rtR (fun hd => res_two rfl (res1_cell (k := 1) hd rfl rfl st68 sz68) (res1_cell (k := 0) hd rfl rfl st26 sz26)) ?_
    rfl
theorem ba_extract (u : ByteArray) (a b : Nat) : (u.extract a b).data.toList = (u.data.toList.drop a).take (b - a) := by
  rw [ByteArray.data_extract, Array.toList_extract]
theorem ext_same (u : ByteArray) (a : Nat) : (⟨#[]⟩ : ByteArray) = u.extract a (a + 0) := by
  apply ByteArray.ext
  apply Array.ext'
  rw [ba_extract, Nat.add_zero, Nat.sub_self, List.take_zero]
theorem ext_next (u : ByteArray) (a b : Nat) (h : a ≤ b) : u.extract a b ++ u.extract b (b + 1) = u.extract a (b + 1) := by
  apply ByteArray.ext
  apply Array.ext'
  rw [ByteArray.data_append, Array.toList_append, ba_extract, ba_extract, ba_extract, show b + 1 - a = (b - a) + (b + 1 - b) from by omega, List.take_add, List.drop_drop, show a + (b - a) = b from by omega]
theorem unq_spec (u : ByteArray) (m : Nat) (hu : m + 2 ≤ u.size) (hus : u.size ≤ 1000000) (h0 : bAt u 0 = 34) (h1 : ∀ j : Nat, j < m → 32 ≤ bAt u ((1 + j : Nat) : Int) ∧ ¬ bAt u ((1 + j : Nat) : Int) = 34 ∧ ¬ bAt u ((1 + j : Nat) : Int) = 92) (h2 : bAt u ((1 + m : Nat) : Int) = 34) (hone : ∀ j : Nat, j < m → oneV (u.extract (1 + j) u.size) = 1) (H : Hp) : ACall Tryz.prog 133 [.v (.string u)] H (IsR H (.tup [.v (.string (u.extract 1 (1 + m))), .v (.int .i64 ((m + 2 : Nat) : Int))])) := by
  have hne : ¬ u.toList = (⟨#[]⟩ : ByteArray).toList := fun h => by
    have := bytes_ext h
    rw [this] at hu
    have e : (⟨#[]⟩ : ByteArray).size = 0 := rfl
    omega
  refine UCall (n := 75) (H0 := H) (objs := []) Tryz.func133 (by kernel_rfl) rfl (by rw [Tryz.ntmps133]; rfl) .nil ?_
  refine S.sq (S.rg ?_)
  refine S.qu (Z.as rfl) ?_
  refine S.qu (Z.as rfl) ?_
  refine US.nil (UQ.then (S.sq (S.sq (S.rg ?_))))
  refine S.qu (Z.mv rfl) ?_
  refine S.qu (Z.bs rfl rfl rfl) ?_
  refine S.qu (Z.mv rfl) ?_
  refine S.tF 11 (beq_f (by assumption)) ?_
  refine S.qu (Z.on (Z.mv rfl)) ?_
  refine S.dd (D.on (D.ib Tryz.underlying9 rfl rfl (by omega) (by omega) (fun h13 => ?_)))
  refine S.qu (Z.on (Z.bi rfl rfl rfl)) ?_
  refine S.qu (Z.pick rfl rfl) ?_
  refine US.nil (UQ.then ?_)
  refine S.cF rfl (bne_f (by omega)) ?_
  refine UW.skip (UQ.then (S.sq (S.rg ?_)))
  refine S.qu (Z.as rfl) ?_
  refine US.nil (UQ.then (S.sq (S.rg ?_)))
  refine S.qu (Z.as rfl) ?_
  refine US.nil (UQ.then (S.sq (UW.block ?_)))
  refine S.loop (fun j : Nat => [(5, .v (.int .i64 ((1 + j : Nat) : Int))), (4, .v (.string (u.extract 1 (1 + j)))), (0, .v (.string u))]) (fun _ => []) (fun j => j ≤ m) (fun j => m - j) 0 (Nat.zero_le _) ⟨rfl, congrArg (fun z => some (AV.v (Value.string z))) (ext_same u 1), rfl, trivial⟩ (.refl _) ?_
  intro j hj
  by_cases hlt : j < m
  · obtain ⟨g1, g2, g3⟩ := h1 j hlt
    have g4 := hone j hlt
    have hen := ext_next u 1 (1 + j) (by omega)
    have hes : (u.extract (1 + j) u.size).size ≤ 4000000 := by rw [ByteArray.size_extract]; omega
    have hz1 : (u.extract 1 (1 + j)).size ≤ 1000000 := by rw [ByteArray.size_extract]; omega
    have hz2 : (u.extract (1 + j) (1 + j + 1)).size ≤ 1000000 := by rw [ByteArray.size_extract]; omega
    focus
      refine S.sq (S.sq (S.rg ?_))
      refine S.qu (Z.mv rfl) ?_
      refine S.qu (Z.mv rfl) ?_
      refine S.qu (Z.lnt Tryz.underlying9 rfl) ?_
      refine S.qu (Z.bi rfl rfl rfl) ?_
      refine S.qu (Z.mv rfl) ?_
      refine S.tD 20 (fun hc20 => ?_) (fun hc20 => ?_)
      rotate_left
      omega
      refine S.qu (Z.on (Z.mv rfl)) ?_
      refine S.qu (Z.on (Z.mv rfl)) ?_
      refine S.dd (D.on (D.ib Tryz.underlying9 rfl rfl (by omega) (by omega) (fun h23 => ?_)))
      refine S.qu (Z.on (Z.bi rfl rfl rfl)) ?_
      refine S.qu (Z.pick rfl rfl) ?_
      refine US.nil (UQ.then ?_)
      refine S.cT rfl (bne_t (by omega)) ?_
      refine UW.skip (UQ.then (UW.block (S.sq (S.sq (S.rg ?_)))))
      refine S.qu (Z.mv rfl) ?_
      refine S.qu (Z.mv rfl) ?_
      refine S.dd (D.ib Tryz.underlying9 rfl rfl (by omega) (by omega) (fun h28 => ?_))
      refine S.qu (Z.bi rfl rfl rfl) ?_
      refine US.nil (UQ.then ?_)
      refine S.cF rfl (beq_f (by omega)) ?_
      refine UW.skip (UQ.then (S.sq (S.rg ?_)))
      refine S.qu (Z.mv rfl) ?_
      refine S.qu (Z.mv rfl) ?_
      refine S.qu (Z.slt Tryz.underlying9 rfl (.lo rfl) (by omega) (by omega)) ?_
      refine S.qu (Z.eq (u' := .v (.int .i64 1)) (Z.call rfl rfl (fun H => one_spec (u.extract (1 + j) u.size) hes H)) (by rw [g4])) ?_
      refine S.qu (Z.as rfl) ?_
      refine US.nil (UQ.then (S.sq (S.sq (S.rg ?_))))
      refine S.qu (Z.mv rfl) ?_
      refine S.qu (Z.bi rfl rfl rfl) ?_
      refine S.qu (Z.mv rfl) ?_
      refine S.tE 51 (fun hc51 => ?_) (fun hc51 => ?_)
      omega
      refine S.qu (Z.on (Z.mv rfl)) ?_
      refine S.qu (Z.on (Z.mv rfl)) ?_
      refine S.dd (D.on (D.ib Tryz.underlying9 rfl rfl (by omega) (by omega) (fun h54 => ?_)))
      refine S.qu (Z.on (Z.bi rfl rfl rfl)) ?_
      refine S.qu (Z.pick rfl rfl) ?_
      refine US.nil (UQ.then ?_)
      refine S.cF rfl (decide_eq_false (by omega)) ?_
      refine UW.skip (UQ.then (S.sq (S.rg ?_)))
      refine S.qu (Z.mv rfl) ?_
      refine S.qu (Z.mv rfl) ?_
      refine S.qu (Z.mv rfl) ?_
      refine S.qu (Z.mv rfl) ?_
      refine S.qu (Z.mv rfl) ?_
      refine S.qu (Z.add (r := ((1 + j + 1 : Nat) : Int)) rfl rfl (IntWalk.i64_in _ (by omega))) ?_
      refine S.qu (Z.slt Tryz.underlying9 rfl (.both rfl rfl) (by omega) (by omega)) ?_
      refine S.qu (Z.eq (u' := .v (.string (u.extract 1 (1 + j + 1)))) (Z.cat rfl rfl (by omega)) (by rw [hen])) ?_
      refine S.qu (Z.as rfl) ?_
      refine US.nil (UQ.then (S.rg ?_))
      refine S.qu (Z.mv rfl) ?_
      refine S.qu (Z.mv rfl) ?_
      refine S.qu (Z.add (r := ((1 + j + 1 : Nat) : Int)) rfl rfl (IntWalk.i64_in _ (by omega))) ?_
      refine S.qu (Z.as rfl) ?_
      refine US.nil (UQ.blockN ?_)
      refine S.back (j + 1) ⟨rfl, rfl, rfl, trivial⟩ (.refl _) (by omega) (by omega)
  · have hjm : j = m := by omega
    subst hjm
    focus
      refine S.sq (S.sq (S.rg ?_))
      refine S.qu (Z.mv rfl) ?_
      refine S.qu (Z.mv rfl) ?_
      refine S.qu (Z.lnt Tryz.underlying9 rfl) ?_
      refine S.qu (Z.bi rfl rfl rfl) ?_
      refine S.qu (Z.mv rfl) ?_
      refine S.tD 20 (fun hc20 => ?_) (fun hc20 => ?_)
      rotate_left
      omega
      refine S.qu (Z.on (Z.mv rfl)) ?_
      refine S.qu (Z.on (Z.mv rfl)) ?_
      refine S.dd (D.on (D.ib Tryz.underlying9 rfl rfl (by omega) (by omega) (fun h23 => ?_)))
      refine S.qu (Z.on (Z.bi rfl rfl rfl)) ?_
      refine S.qu (Z.pick rfl rfl) ?_
      refine US.nil (UQ.then ?_)
      refine S.cF rfl (bne_f (by omega)) ?_
      refine UW.exit (UQ.pass (UQ.pass (UQ.here (UQ.then (S.sq (S.sq (S.rg ?_)))))))
      refine S.qu (Z.mv rfl) ?_
      refine S.qu (Z.mv rfl) ?_
      refine S.qu (Z.lnt Tryz.underlying9 rfl) ?_
      refine S.qu (Z.bi rfl rfl rfl) ?_
      refine US.nil (UQ.then ?_)
      refine S.cF rfl (decide_eq_false (by omega)) ?_
      refine UW.skip (UQ.then (S.sq (S.rg ?_)))
      refine S.qu (Z.mv rfl) ?_
      refine S.qu (Z.mv rfl) ?_
      refine S.qu (Z.add (r := ((j + 2 : Nat) : Int)) rfl rfl (by rw [IntWalk.i64_in _ (by omega)]; omega)) ?_
      refine S.qu (Z.as rfl) ?_
      refine S.qu (Z.as rfl) ?_
      refine US.nil (UQ.then (UW.ret ?_))
      refine S.rtR (fun hd => res_two rfl (res1_tmp rfl) (res1_tmp rfl)) ?_
      rfl
end Go.Proofs.YtgmfgmbgmjbdhaaGreatDoor
