/- The document's reader, as far as one text wants it. · The document's reader of objects of texts and numbers. -/
import Derived.Test.YtgmfgmbgmjbdhaaGreatDoorKx13
import Derived.Test.YtgmfgmbgmjbdhaaGreatDoorKx18
import Derived.Test.YtgmfgmbgmjbdhaaGreatDoorKx23
import Derived.Test.YtgmfgmbgmjbdhaaGreatDoorKx19
import Derived.Test.YtgmfgmbgmjbdhaaGreatDoorKx22
section
namespace Go.Proofs.YtgmfgmbgmjbdhaaGreatDoor
open Go Go.RowKit Go.Eng
set_option linter.unusedSimpArgs false
set_option linter.unusedVariables false
set_option maxRecDepth 100000
set_option maxHeartbeats 4000000
def rdA (s : ByteArray) (p d : Nat) : List AV := [.v (.string s), .v (.int .i64 (p : Int)), .v (.int .i64 0), .v (.int .i64 (d : Int))]
def isB (s : ByteArray) (p : Nat) (c : Int) : Bool := decide ((p : Int) < s.size) && (bAt s (p : Int) == c)
theorem is_spec (s : ByteArray) (p d : Nat) (c : Int) (hs : s.size ≤ 1000000) (H : Hp) : ACall Tryz.prog 106 [.agg (rdA s p d), .v (.int .u8 c)] H (IsR H (.v (.bool (isB s p c)))) := by
  by_cases hlt : (p : Int) < s.size
  · have h1 : isB s p c = (bAt s (p : Int) == c) := by unfold isB; rw [decide_eq_true hlt, Bool.true_and]
    rw [h1]
    refine UCall (n := 25) (H0 := H) (objs := []) Tryz.func106 (by kernel_rfl) rfl (by rw [Tryz.ntmps106]; rfl) .nil <| ?_
    focus
      refine Q.rg <| S.dd <| D.box rfl rfl rfl fun p2 => Q.as rfl <| Q.nt <| Q.rg <| Q.fa f68_2 rfl <| Q.lc 0 ty3 rfl rfl rfl <| Q.bi rfl rfl rfl <| Q.mv rfl <| ?_
      refine S.tE 8 (fun hc8 => ?_) (fun hc8 => ?_)
      rotate_left
      omega
      refine Q.on (Z.fa f68_1 rfl) <| Q.on (Z.ldc 0 ty3 rfl rfl rfl) <| Q.on (Z.fa f68_0 rfl) <| Q.on (Z.ldc 0 ty9 rfl rfl rfl) <| Q.on (Z.lnt Tryz.underlying9 rfl) <| Q.on (Z.bi rfl rfl rfl) <| Q.pk rfl rfl <| Q.mv rfl <| ?_
      refine S.tD 16 (fun hc16 => ?_) (fun hc16 => ?_)
      rotate_left
      omega
      refine Q.on (Z.fa f68_0 rfl) <| Q.on (Z.ldc 0 ty9 rfl rfl rfl) <| Q.on (Z.fa f68_1 rfl) <| Q.on (Z.ldc 0 ty3 rfl rfl rfl) <| S.dd <| D.on <| D.ib Tryz.underlying9 rfl rfl (by omega) (by omega) fun h21 => Q.on (Z.mv rfl) <| Q.on (Z.bi rfl rfl rfl) <| Q.pk rfl rfl <| Q.as rfl <| Q.nt <| UW.ret <| S.rtR (fun _ => res_tmp rfl rfl) <| ?_
      rfl
  · have h1 : isB s p c = false := by unfold isB; rw [decide_eq_false hlt, Bool.false_and]
    rw [h1]
    refine UCall (n := 25) (H0 := H) (objs := []) Tryz.func106 (by kernel_rfl) rfl (by rw [Tryz.ntmps106]; rfl) .nil <| ?_
    focus
      refine Q.rg <| S.dd <| D.box rfl rfl rfl fun p2 => Q.as rfl <| Q.nt <| Q.rg <| Q.fa f68_2 rfl <| Q.lc 0 ty3 rfl rfl rfl <| Q.bi rfl rfl rfl <| Q.mv rfl <| ?_
      refine S.tE 8 (fun hc8 => ?_) (fun hc8 => ?_)
      rotate_left
      omega
      refine Q.on (Z.fa f68_1 rfl) <| Q.on (Z.ldc 0 ty3 rfl rfl rfl) <| Q.on (Z.fa f68_0 rfl) <| Q.on (Z.ldc 0 ty9 rfl rfl rfl) <| Q.on (Z.lnt Tryz.underlying9 rfl) <| Q.on (Z.bi rfl rfl rfl) <| Q.pk rfl rfl <| Q.mv rfl <| S.tF 16 (decide_eq_false (by omega)) <| Q.of <| Q.of <| Q.of <| Q.of <| Q.of <| Q.of <| Q.of <| Q.pk rfl rfl <| Q.as rfl <| Q.nt <| UW.ret <| S.rtR (fun _ => res_tmp rfl rfl) <| ?_
      rfl
theorem blanks_spec (s : ByteArray) (p d : Nat) (hs : s.size ≤ 1000000) (h1 : isB s p 32 = false) (h2 : isB s p 9 = false) (h3 : isB s p 10 = false) (h4 : isB s p 13 = false) (H : Hp) : ACall Tryz.prog 70 [.agg (rdA s p d)] H (IsR H (.agg (rdA s p d))) := by
  have hi : ∀ c H, ACall Tryz.prog 106 [.agg (rdA s p d), .v (.int .u8 c)] H (IsR H (.v (.bool (isB s p c)))) := fun c H => is_spec s p d c hs H
  refine UCall (n := 22) (H0 := H) (objs := []) Tryz.func70 (by kernel_rfl) rfl (by rw [Tryz.ntmps70]; rfl) .nil <| ?_
  refine Q.rg <| S.dd <| D.box rfl rfl rfl fun p1 => S.dd <| D.al z68 rfl rfl rfl fun p2 => Q.nt <| S.sq <| UW.block <| S.loop (fun _ : Nat => [(1, .ptr p1 0), (2, .ptr p2 0)]) (fun _ => [(p2, .box 68 [.v (.string ⟨#[]⟩), .v (.int .i64 0), .v (.int .i64 0), .v (.int .i64 0)]), (p1, .box 68 (rdA s p d))]) (fun _ => True) (fun j => j) 0 trivial ⟨rfl, rfl, trivial⟩ (.refl _) <| ?_
  intro j _
  refine S.sq <| Q.rg <| S.qu (Z.ldw 1 ty68 rfl rfl rfl) <| S.qu (Z.tF (Z.call rfl rfl (fun H => hi 32 H)) h1) <| Q.mv rfl <| Q.on (Z.ldw 1 ty68 rfl rfl rfl) <| Q.on (Z.tF (Z.call rfl rfl (fun H => hi 9 H)) h2) <| Q.pk rfl rfl <| Q.mv rfl <| Q.on (Z.ldw 1 ty68 rfl rfl rfl) <| Q.on (Z.tF (Z.call rfl rfl (fun H => hi 10 H)) h3) <| Q.pk rfl rfl <| Q.mv rfl <| Q.on (Z.ldw 1 ty68 rfl rfl rfl) <| Q.on (Z.tF (Z.call rfl rfl (fun H => hi 13 H)) h4) <| Q.pk rfl rfl <| Q.nt <| S.cF rfl rfl <| UW.exit <| UQ.pass <| UQ.pass <| UQ.here <| UQ.then <| Q.rg <| S.qu (Z.ldw 1 ty68 rfl rfl rfl) <| S.s <| D.st 0 ty68 rfl rfl rfl rfl rfl rfl rfl rfl fun _ => Q.nt <| UW.ret <| S.rtR (fun hd => res_cell (k := 0) hd rfl rfl rfl st68 sz68) <| ?_
  rfl
theorem need_spec (s : ByteArray) (p d : Nat) (c : Int) (hs : s.size ≤ 1000000) (hp : p ≤ 1000000) (h1 : isB s p c = true) (H : Hp) : ACall Tryz.prog 132 [.agg (rdA s p d), .v (.int .u8 c)] H (IsR H (.agg (rdA s (p + 1) d))) := by
  have hi : ∀ c H, ACall Tryz.prog 106 [.agg (rdA s p d), .v (.int .u8 c)] H (IsR H (.v (.bool (isB s p c)))) := fun c H => is_spec s p d c hs H
  have hn : (!isB s p c) = false := by rw [h1]; rfl
  refine UCall (n := 20) (H0 := H) (objs := []) Tryz.func132 (by kernel_rfl) rfl (by rw [Tryz.ntmps132]; rfl) .nil <| ?_
  refine Q.rg <| S.dd <| D.box rfl rfl rfl fun p2 => S.dd <| D.al z68 rfl rfl rfl fun p4 => Q.nt <| S.sq <| Q.rg <| Q.fa f68_2 rfl <| Q.lc 1 ty3 rfl rfl rfl <| Q.bi rfl rfl rfl <| Q.nt <| S.cF rfl (bne_f (by omega)) <| UW.skip <| UQ.then <| S.sq <| Q.rg <| S.qu (Z.ldw 1 ty68 rfl rfl rfl) <| Q.mv rfl <| S.qu (Z.tT (Z.call rfl rfl (fun H => hi c H)) h1) <| S.qu (Z.not rfl) <| Q.nt <| S.cF rfl rfl <| UW.skip <| UQ.then <| Q.rg <| Q.fa f68_1 rfl <| Q.lc 1 ty3 rfl rfl rfl <| S.qu (Z.add (r := ((p + 1 : Nat) : Int)) rfl rfl (IntWalk.i64_in _ (by omega))) <| Q.fa f68_1 rfl <| S.s <| D.st 1 ty3 rfl rfl rfl rfl rfl rfl rfl rfl fun _ => Q.nt <| Q.rg <| S.qu (Z.ldw 1 ty68 rfl rfl rfl) <| S.s <| D.st 0 ty68 rfl rfl rfl rfl rfl rfl rfl rfl fun _ => Q.nt <| UW.ret <| S.rtR (fun hd => res_cell (k := 0) hd rfl rfl rfl st68 sz68) <| ?_
  rfl
theorem digits1_spec (s : ByteArray) (p d : Nat) (hs : s.size ≤ 1000000) (hp : p + 1 < s.size) (h0 : 48 ≤ bAt s (p : Int) ∧ bAt s (p : Int) ≤ 57) (h1 : bAt s ((p + 1 : Nat) : Int) < 48 ∨ 57 < bAt s ((p + 1 : Nat) : Int)) (H : Hp) : ACall Tryz.prog 109 [.agg (rdA s p d), .v (.int .i64 (p : Int))] H (IsR H (.v (.int .i64 1))) := by
  refine UCall (n := 34) (H0 := H) (objs := []) Tryz.func109 (by kernel_rfl) rfl (by rw [Tryz.ntmps109]; rfl) .nil <| ?_
  refine Q.rg <| S.dd <| D.box rfl rfl rfl fun p2 => Q.as rfl <| Q.nt <| Q.rg <| Q.as rfl <| Q.nt <| S.sq <| UW.block <| S.loop (fun j : Nat => [(5, .v (.int .i64 (j : Int))), (2, .ptr p2 0), (1, .v (.int .i64 (p : Int)))]) (fun _ => [(p2, .box 68 (rdA s p d))]) (fun j => j ≤ 1) (fun j => 1 - j) 0 (Nat.zero_le _) ⟨rfl, rfl, rfl, trivial⟩ (.refl _) <| ?_
  intro j hj
  by_cases hj0 : j = 0
  · subst hj0
    focus
      refine S.sq <| Q.rg <| Q.mv rfl <| Q.mv rfl <| S.qu (Z.add (r := (p : Int)) rfl rfl (by show IntKind.i64.wrap ((p : Int) + 0) = _; rw [Int.add_zero]; exact IntWalk.i64_in _ (by omega))) <| ?_
      refine Q.fa f68_0 rfl <| Q.lc 0 ty9 rfl rfl rfl <| S.qu (Z.lnt Tryz.underlying9 rfl) <| Q.bi rfl rfl rfl <| Q.mv rfl <| ?_
      refine S.tD 13 (fun hc13 => ?_) (fun hc13 => ?_)
      rotate_left
      omega
      refine Q.on (Z.fa f68_0 rfl) <| Q.on (Z.ldc 0 ty9 rfl rfl rfl) <| Q.on (Z.mv rfl) <| Q.on (Z.mv rfl) <| Q.on (Z.add (r := (p : Int)) rfl rfl (by show IntKind.i64.wrap ((p : Int) + 0) = _; rw [Int.add_zero]; exact IntWalk.i64_in _ (by omega))) <| ?_
      refine S.dd <| D.on <| D.ib Tryz.underlying9 rfl rfl (by omega) (by omega) fun h19 => Q.on (Z.bi rfl rfl rfl) <| Q.pk rfl rfl <| Q.mv rfl <| ?_
      refine S.tD 22 (fun hc22 => ?_) (fun hc22 => ?_)
      rotate_left
      omega
      refine Q.on (Z.fa f68_0 rfl) <| Q.on (Z.ldc 0 ty9 rfl rfl rfl) <| Q.on (Z.mv rfl) <| Q.on (Z.mv rfl) <| Q.on (Z.add (r := (p : Int)) rfl rfl (by show IntKind.i64.wrap ((p : Int) + 0) = _; rw [Int.add_zero]; exact IntWalk.i64_in _ (by omega))) <| ?_
      refine S.dd <| D.on <| D.ib Tryz.underlying9 rfl rfl (by omega) (by omega) fun h28 => Q.on (Z.bi rfl rfl rfl) <| Q.pk rfl rfl <| Q.nt <| S.cT rfl (decide_eq_true (by omega)) <| UW.skip <| UQ.then <| UW.block <| S.rg <| Q.mv rfl <| S.qu (Z.add (r := ((1 : Nat) : Int)) rfl rfl rfl) <| Q.as rfl <| US.nil <| UQ.blockN <| ?_
      refine S.back 1 ⟨rfl, rfl, rfl, trivial⟩ (.refl _) (by omega) (by omega)
  · have hj1 : j = 1 := by omega
    subst hj1
    focus
      refine S.sq <| Q.rg <| Q.mv rfl <| Q.mv rfl <| S.qu (Z.add (r := ((p + 1 : Nat) : Int)) rfl rfl (IntWalk.i64_in _ (by omega))) <| Q.fa f68_0 rfl <| Q.lc 0 ty9 rfl rfl rfl <| S.qu (Z.lnt Tryz.underlying9 rfl) <| Q.bi rfl rfl rfl <| Q.mv rfl <| ?_
      refine S.tD 13 (fun hc13 => ?_) (fun hc13 => ?_)
      rotate_left
      omega
      refine Q.on (Z.fa f68_0 rfl) <| Q.on (Z.ldc 0 ty9 rfl rfl rfl) <| Q.on (Z.mv rfl) <| Q.on (Z.mv rfl) <| Q.on (Z.add (r := ((p + 1 : Nat) : Int)) rfl rfl (IntWalk.i64_in _ (by omega))) <| S.dd <| D.on <| D.ib Tryz.underlying9 rfl rfl (by omega) (by omega) fun h19 => Q.on (Z.bi rfl rfl rfl) <| Q.pk rfl rfl <| Q.mv rfl <| ?_
      refine S.tD 22 (fun hc22 => ?_) (fun hc22 => ?_)
      refine Q.on (Z.fa f68_0 rfl) <| Q.on (Z.ldc 0 ty9 rfl rfl rfl) <| Q.on (Z.mv rfl) <| Q.on (Z.mv rfl) <| Q.on (Z.add (r := ((p + 1 : Nat) : Int)) rfl rfl (IntWalk.i64_in _ (by omega))) <| S.dd <| D.on <| D.ib Tryz.underlying9 rfl rfl (by omega) (by omega) fun h28 => Q.on (Z.bi rfl rfl rfl) <| Q.pk rfl rfl <| Q.nt <| S.cF rfl (decide_eq_false (by omega)) <| UW.exit <| UQ.pass <| UQ.pass <| UQ.here <| UQ.then <| Q.rg <| Q.mv rfl <| Q.as rfl <| Q.nt <| UW.ret <| S.rtR (fun _ => res_tmp rfl rfl) <| ?_
      rfl
      refine Q.of <| Q.of <| Q.of <| Q.of <| Q.of <| Q.of <| Q.of <| Q.pk rfl rfl <| Q.nt <| S.cF rfl rfl <| UW.exit <| UQ.pass <| UQ.pass <| UQ.here <| UQ.then <| Q.rg <| Q.mv rfl <| Q.as rfl <| Q.nt <| UW.ret <| S.rtR (fun _ => res_tmp rfl rfl) <| ?_
      rfl
theorem number1_spec (s : ByteArray) (p d : Nat) (hs : s.size ≤ 1000000) (hp : p + 1 < s.size) (hm : isB s p 45 = false) (h0 : 48 ≤ bAt s (p : Int) ∧ bAt s (p : Int) ≤ 57) (h1 : bAt s ((p + 1 : Nat) : Int) < 46 ∨ 57 < bAt s ((p + 1 : Nat) : Int)) (h2 : ¬ bAt s ((p + 1 : Nat) : Int) = 101) (h3 : ¬ bAt s ((p + 1 : Nat) : Int) = 69) (n : Int) (hn : bAt s (p : Int) = 48 + n) (H : Hp) : ACall Tryz.prog 110 [.agg (rdA s p d)] H (IsR H (.tup [.agg (rdA s (p + 1) d), .agg (encV (numV n))])) := by
  have hi : ∀ H, ACall Tryz.prog 106 [.agg (rdA s p d), .v (.int .u8 45)] H (IsR H (.v (.bool (isB s p 45)))) := fun H => is_spec s p d 45 hs H
  refine UCall (n := 118) (H0 := H) (objs := []) Tryz.func110 (by kernel_rfl) rfl (by rw [Tryz.ntmps110]; rfl) .nil <| ?_
  focus
    refine Q.rg <| S.dd <| D.box rfl rfl rfl fun p1 => S.dd <| D.al z68 rfl rfl rfl fun p2 => S.dd <| D.al z26 rfl rfl rfl fun p3 => Q.nt <| Q.rg <| Q.fa f68_1 rfl <| Q.lc 2 ty3 rfl rfl rfl <| Q.as rfl <| Q.nt <| S.sq <| Q.rg <| S.qu (Z.ldw 2 ty68 rfl rfl rfl) <| S.qu (Z.tF (Z.call rfl rfl (fun H => hi H)) hm) <| Q.nt <| S.cF rfl rfl <| UW.skip <| UQ.then <| Q.rg <| S.qu (Z.ldw 2 ty68 rfl rfl rfl) <| Q.mv rfl <| S.qu (Z.call rfl rfl (fun H => digits1_spec s p d hs hp h0 (by omega) H)) <| Q.as rfl <| Q.nt <| S.sq <| Q.rg <| Q.mv rfl <| Q.bi rfl rfl rfl <| Q.mv rfl <| ?_
    refine S.tE 20 (fun hc20 => ?_) (fun hc20 => ?_)
    omega
    refine Q.on (Z.mv rfl) <| Q.on (Z.bi rfl rfl rfl) <| Q.on (Z.mv rfl) <| S.tF 23 (decide_eq_false (by omega)) <| Q.of <| Q.of <| Q.of <| Q.of <| Q.of <| Q.on (Z.pick rfl rfl) <| Q.pk rfl rfl <| Q.mv rfl <| Q.on (Z.mv rfl) <| Q.on (Z.fa f68_1 rfl) <| Q.on (Z.ldc 2 ty3 rfl rfl rfl) <| Q.on (Z.bi rfl rfl rfl) <| Q.on (Z.mv rfl) <| ?_
    refine S.tD 36 (fun hc36 => ?_) (fun hc36 => ?_)
    omega
    refine Q.of <| Q.of <| Q.on (Z.pick rfl rfl) <| Q.on (Z.mv rfl) <| Q.of <| Q.of <| Q.of <| Q.of <| Q.of <| Q.on (Z.pick rfl rfl) <| Q.pk rfl rfl <| Q.nt <| S.cF rfl rfl <| UW.skip <| UQ.then <| Q.rg <| Q.mv rfl <| Q.mv rfl <| S.qu (Z.add (r := ((p + 1 : Nat) : Int)) rfl rfl (IntWalk.i64_in _ (by omega))) <| Q.as rfl <| Q.nt <| S.sq <| Q.rg <| Q.mv rfl <| Q.fa f68_0 rfl <| Q.lc 2 ty9 rfl rfl rfl <| S.qu (Z.lnt Tryz.underlying9 rfl) <| Q.bi rfl rfl rfl <| Q.mv rfl <| ?_
    refine S.tD 59 (fun hc59 => ?_) (fun hc59 => ?_)
    rotate_left
    omega
    refine Q.on (Z.fa f68_0 rfl) <| Q.on (Z.ldc 2 ty9 rfl rfl rfl) <| Q.on (Z.mv rfl) <| S.dd <| D.on <| D.ib Tryz.underlying9 rfl rfl (by omega) (by omega) fun h63 => Q.on (Z.bi rfl rfl rfl) <| Q.on (Z.mv rfl) <| ?_
    refine S.tE 65 (fun hc65 => ?_) (fun hc65 => ?_)
    omega
    refine Q.on (Z.fa f68_0 rfl) <| Q.on (Z.ldc 2 ty9 rfl rfl rfl) <| Q.on (Z.mv rfl) <| S.dd <| D.on <| D.ib Tryz.underlying9 rfl rfl (by omega) (by omega) fun h69 => Q.on (Z.bi rfl rfl rfl) <| Q.on (Z.pick rfl rfl) <| Q.on (Z.mv rfl) <| ?_
    refine S.tE 72 (fun hc72 => ?_) (fun hc72 => ?_)
    omega
    refine Q.on (Z.fa f68_0 rfl) <| Q.on (Z.ldc 2 ty9 rfl rfl rfl) <| Q.on (Z.mv rfl) <| S.dd <| D.on <| D.ib Tryz.underlying9 rfl rfl (by omega) (by omega) fun h76 => Q.on (Z.bi rfl rfl rfl) <| Q.on (Z.pick rfl rfl) <| Q.pk rfl rfl <| Q.mv rfl <| ?_
    refine S.tE 80 (fun hc80 => ?_) (fun hc80 => ?_)
    omega
    refine Q.on (Z.mv rfl) <| Q.on (Z.bi rfl rfl rfl) <| Q.pk rfl rfl <| Q.nt <| S.cF rfl (decide_eq_false (by omega)) <| UW.skip <| UQ.then <| Q.rg <| Q.as rfl <| Q.nt <| S.sq <| Q.rg <| Q.mv rfl <| Q.as rfl <| Q.nt <| UW.block <| ?_
  refine S.loop (fun j : Nat => [(8, .v (.int .i64 ((p + j : Nat) : Int))), (7, .v (.int .i64 (if j = 0 then 0 else n))), (6, .v (.int .i64 ((p + 1 : Nat) : Int))), (4, .v (.int .i64 (p : Int))), (3, .ptr p3 0), (2, .ptr p2 0), (1, .ptr p1 0)]) (fun _ => [(p3, .box 26 (encV zeroV)), (p2, .box 68 [.v (.string ⟨#[]⟩), .v (.int .i64 0), .v (.int .i64 0), .v (.int .i64 0)]), (p1, .box 68 (rdA s p d))]) (fun j => j ≤ 1) (fun j => 1 - j) 0 (Nat.zero_le _) ⟨rfl, rfl, rfl, rfl, rfl, rfl, rfl, trivial⟩ (.refl _) <| ?_
  intro j hj
  by_cases hj0 : j = 0
  · subst hj0
    rw [if_pos rfl]
    refine S.sq <| Q.rg <| Q.mv rfl <| Q.mv rfl <| Q.bi rfl rfl rfl <| Q.nt <| S.cT rfl (decide_eq_true (by omega)) <| UW.skip <| UQ.then <| S.sq <| UW.block <| S.rg <| Q.mv rfl <| S.qu (Z.mul (r := 0) rfl rfl rfl) <| Q.fa f68_0 rfl <| Q.lc 2 ty9 rfl rfl rfl <| Q.mv rfl <| S.dd <| D.ib Tryz.underlying9 rfl rfl (by omega) (by omega) fun h98 => S.qu (Z.sub (r := n) rfl rfl (by show IntKind.u8.wrap (bAt s (p : Int) - 48) = n; rw [hn, IntWalk.u8_in _ (by omega)]; omega)) <| ?_
    refine S.qu (Z.cv Tryz.underlying2 rfl (IntWalk.i64_in _ (by omega)) (by rw [Tryz.underlying5]; rfl)) <| ?_
    refine S.qu (Z.add (r := n) rfl rfl (by rw [Int.zero_add]; exact IntWalk.i64_in _ (by omega))) <| ?_
    refine Q.as rfl <| US.nil <| UQ.blockN <| UQ.then <| S.rg <| Q.mv rfl <| S.qu (Z.add (r := ((p + 1 : Nat) : Int)) rfl rfl (IntWalk.i64_in _ (by omega))) <| Q.as rfl <| US.nil <| ?_
    refine S.back 1 ⟨rfl, rfl, rfl, rfl, rfl, rfl, rfl, trivial⟩ (.refl _) (by omega) (by omega)
  · have hj1 : j = 1 := by omega
    subst hj1
    rw [if_neg hj0]
    refine S.sq <| Q.rg <| Q.mv rfl <| Q.mv rfl <| Q.bi rfl rfl rfl <| Q.nt <| S.cF rfl (decide_eq_false (by omega)) <| UW.exit <| UQ.pass <| UQ.pass <| UQ.here <| UQ.then <| S.sq <| Q.rg <| Q.mv rfl <| Q.bi rfl rfl rfl <| Q.nt <| S.cF rfl (decide_eq_false (by omega)) <| UW.skip <| UQ.then <| S.sq <| Q.rg <| Q.mv rfl <| Q.fa f68_1 rfl <| Q.lc 2 ty3 rfl rfl rfl <| Q.bi rfl rfl rfl <| Q.nt <| S.cF rfl (decide_eq_false (by omega)) <| UW.skip <| UQ.then <| Q.rg <| Q.mv rfl <| Q.fa f68_1 rfl <| S.s <| D.st 2 ty3 rfl rfl rfl rfl rfl rfl rfl rfl fun _ => Q.nt <| S.sq <| ?_
    refine' UW.draw' (by kernel_rfl) [0, 0, 2, 7, 15] [some 115, some 116, some 117, none, none] [some (115, _), some (116, _), some (117, _), none, none] [3, 4] [0] rfl (by decide) (by decide) (QAll.held (by decide) rfl rfl ?q12x0_0 (QAll.free (by decide) rfl rfl ?q12x0_1 (QAll.free (by decide) rfl rfl ?q12x0_2 (QAll.skip (QAll.skip QAll.nil))))) ?q12x0_k
    case q12x0_0 => exact Z.ldw 2 ty68 rfl rfl rfl
    case q12x0_1 => (intro _; exact Z.mv rfl)
    case q12x0_2 => (intro _; exact Z.call rfl rfl (fun H => numR_spec n H))
    refine CH.cons0 rfl rfl <| D.st 1 ty68 rfl rfl rfl rfl rfl rfl rfl rfl fun _ => CH.cons0 rfl rfl <| D.st 0 ty26 rfl rfl rfl rfl rfl rfl rfl rfl fun _ => CH.nil <| ?_
    simp only [app, finL]
    refine UQ.then <| UW.ret <| S.rtR (fun hd => res_two rfl (res1_cell (k := 1) hd rfl rfl st68 sz68) (res1_cell (k := 0) hd rfl rfl st26 sz26)) <| ?_
    rfl
theorem ba_extract (u : ByteArray) (a b : Nat) : (u.extract a b).data.toList = (u.data.toList.drop a).take (b - a) := by
  rw [ByteArray.data_extract, Array.toList_extract]
theorem ext_same (u : ByteArray) (a : Nat) : (⟨#[]⟩ : ByteArray) = u.extract a (a + 0) := by
  apply ByteArray.ext
  apply Array.ext'
  rw [ba_extract, Nat.add_zero, Nat.sub_self, List.take_zero]
theorem ext_next (u : ByteArray) (a b : Nat) (h : a ≤ b) : u.extract a b ++ u.extract b (b + 1) = u.extract a (b + 1) := by
  apply ByteArray.ext
  apply Array.ext'
  rw [ByteArray.data_append, Array.toList_append, ba_extract, ba_extract, ba_extract, show b + 1 - a = (b - a) + (b + 1 - b) from by omega, List.take_add, List.drop_drop, show a + (b - a) = b from by omega]
theorem unq_spec (u : ByteArray) (m : Nat) (hu : m + 2 ≤ u.size) (hus : u.size ≤ 1000000) (h0 : bAt u 0 = 34) (h1 : ∀ j : Nat, j < m → 32 ≤ bAt u ((1 + j : Nat) : Int) ∧ ¬ bAt u ((1 + j : Nat) : Int) = 34 ∧ ¬ bAt u ((1 + j : Nat) : Int) = 92) (h2 : bAt u ((1 + m : Nat) : Int) = 34) (hone : ∀ j : Nat, j < m → oneV (u.extract (1 + j) u.size) = 1) (H : Hp) : ACall Tryz.prog 133 [.v (.string u)] H (IsR H (.tup [.v (.string (u.extract 1 (1 + m))), .v (.int .i64 ((m + 2 : Nat) : Int))])) := by
  have hne : ¬ u.toList = (⟨#[]⟩ : ByteArray).toList := fun h => by
    have := bytes_ext h
    rw [this] at hu
    have e : (⟨#[]⟩ : ByteArray).size = 0 := rfl
    omega
  refine UCall (n := 75) (H0 := H) (objs := []) Tryz.func133 (by kernel_rfl) rfl (by rw [Tryz.ntmps133]; rfl) .nil <| ?_
  refine Q.rg <| Q.as rfl <| Q.as rfl <| Q.nt <| S.sq <| Q.rg <| Q.mv rfl <| S.qu (Z.bs rfl rfl rfl) <| Q.mv rfl <| S.tF 11 (beq_f (by assumption)) <| ?_
  refine Q.on (Z.mv rfl) <| S.dd <| D.on <| D.ib Tryz.underlying9 rfl rfl (by omega) (by omega) fun h13 => Q.on (Z.bi rfl rfl rfl) <| Q.pk rfl rfl <| Q.nt <| S.cF rfl (bne_f (by omega)) <| UW.skip <| UQ.then <| Q.rg <| Q.as rfl <| Q.nt <| Q.rg <| Q.as rfl <| Q.nt <| S.sq <| UW.block <| S.loop (fun j : Nat => [(5, .v (.int .i64 ((1 + j : Nat) : Int))), (4, .v (.string (u.extract 1 (1 + j)))), (0, .v (.string u))]) (fun _ => []) (fun j => j ≤ m) (fun j => m - j) 0 (Nat.zero_le _) ⟨rfl, congrArg (fun z => some (AV.v (Value.string z))) (ext_same u 1), rfl, trivial⟩ (.refl _) <| ?_
  intro j hj
  by_cases hlt : j < m
  · obtain ⟨g1, g2, g3⟩ := h1 j hlt
    have g4 := hone j hlt
    have hen := ext_next u 1 (1 + j) (by omega)
    have hes : (u.extract (1 + j) u.size).size ≤ 4000000 := by rw [ByteArray.size_extract]; omega
    have hz1 : (u.extract 1 (1 + j)).size ≤ 1000000 := by rw [ByteArray.size_extract]; omega
    have hz2 : (u.extract (1 + j) (1 + j + 1)).size ≤ 1000000 := by rw [ByteArray.size_extract]; omega
    focus
      refine S.sq <| Q.rg <| Q.mv rfl <| Q.mv rfl <| S.qu (Z.lnt Tryz.underlying9 rfl) <| Q.bi rfl rfl rfl <| Q.mv rfl <| ?_
      refine S.tD 20 (fun hc20 => ?_) (fun hc20 => ?_)
      rotate_left
      omega
      refine Q.on (Z.mv rfl) <| Q.on (Z.mv rfl) <| S.dd <| D.on <| D.ib Tryz.underlying9 rfl rfl (by omega) (by omega) fun h23 => Q.on (Z.bi rfl rfl rfl) <| Q.pk rfl rfl <| Q.nt <| S.cT rfl (bne_t (by omega)) <| UW.skip <| UQ.then <| UW.block <| S.sq <| Q.rg <| Q.mv rfl <| Q.mv rfl <| S.dd <| D.ib Tryz.underlying9 rfl rfl (by omega) (by omega) fun h28 => Q.bi rfl rfl rfl <| Q.nt <| S.cF rfl (beq_f (by omega)) <| UW.skip <| UQ.then <| Q.rg <| Q.mv rfl <| Q.mv rfl <| S.qu (Z.slt Tryz.underlying9 rfl (.lo rfl) (by omega) (by omega)) <| S.qu (Z.eq (u' := .v (.int .i64 1)) (Z.call rfl rfl (fun H => one_spec (u.extract (1 + j) u.size) hes H)) (by rw [g4])) <| ?_
      refine Q.as rfl <| Q.nt <| S.sq <| Q.rg <| Q.mv rfl <| Q.bi rfl rfl rfl <| Q.mv rfl <| ?_
      refine S.tE 51 (fun hc51 => ?_) (fun hc51 => ?_)
      omega
      refine Q.on (Z.mv rfl) <| Q.on (Z.mv rfl) <| S.dd <| D.on <| D.ib Tryz.underlying9 rfl rfl (by omega) (by omega) fun h54 => Q.on (Z.bi rfl rfl rfl) <| Q.pk rfl rfl <| Q.nt <| S.cF rfl (decide_eq_false (by omega)) <| UW.skip <| UQ.then <| Q.rg <| Q.mv rfl <| Q.mv rfl <| Q.mv rfl <| Q.mv rfl <| Q.mv rfl <| S.qu (Z.add (r := ((1 + j + 1 : Nat) : Int)) rfl rfl (IntWalk.i64_in _ (by omega))) <| S.qu (Z.slt Tryz.underlying9 rfl (.both rfl rfl) (by omega) (by omega)) <| S.qu (Z.eq (u' := .v (.string (u.extract 1 (1 + j + 1)))) (Z.cat rfl rfl (by omega)) (by rw [hen])) <| ?_
      refine Q.as rfl <| Q.nt <| S.rg <| Q.mv rfl <| Q.mv rfl <| S.qu (Z.add (r := ((1 + j + 1 : Nat) : Int)) rfl rfl (IntWalk.i64_in _ (by omega))) <| Q.as rfl <| US.nil <| UQ.blockN <| ?_
      refine S.back (j + 1) ⟨rfl, rfl, rfl, trivial⟩ (.refl _) (by omega) (by omega)
  · have hjm : j = m := by omega
    subst hjm
    focus
      refine S.sq <| Q.rg <| Q.mv rfl <| Q.mv rfl <| S.qu (Z.lnt Tryz.underlying9 rfl) <| Q.bi rfl rfl rfl <| Q.mv rfl <| ?_
      refine S.tD 20 (fun hc20 => ?_) (fun hc20 => ?_)
      rotate_left
      omega
      refine Q.on (Z.mv rfl) <| Q.on (Z.mv rfl) <| S.dd <| D.on <| D.ib Tryz.underlying9 rfl rfl (by omega) (by omega) fun h23 => Q.on (Z.bi rfl rfl rfl) <| Q.pk rfl rfl <| Q.nt <| S.cF rfl (bne_f (by omega)) <| UW.exit <| UQ.pass <| UQ.pass <| UQ.here <| UQ.then <| S.sq <| Q.rg <| Q.mv rfl <| Q.mv rfl <| S.qu (Z.lnt Tryz.underlying9 rfl) <| Q.bi rfl rfl rfl <| Q.nt <| S.cF rfl (decide_eq_false (by omega)) <| UW.skip <| UQ.then <| Q.rg <| Q.mv rfl <| Q.mv rfl <| S.qu (Z.add (r := ((j + 2 : Nat) : Int)) rfl rfl (by rw [IntWalk.i64_in _ (by omega)]; omega)) <| ?_
      refine Q.as rfl <| Q.as rfl <| Q.nt <| UW.ret <| S.rtR (fun hd => res_two rfl (res1_tmp rfl) (res1_tmp rfl)) <| ?_
      rfl
end Go.Proofs.YtgmfgmbgmjbdhaaGreatDoor
end
section
namespace Go.Proofs.YtgmfgmbgmjbdhaaGreatDoor
open Go Go.RowKit Go.Eng
set_option linter.unusedSimpArgs false
set_option linter.unusedVariables false
set_option maxRecDepth 100000
set_option maxHeartbeats 4000000
theorem strP_spec (s : ByteArray) (p d m : Nat) (hs : s.size ≤ 1000000) (hp : p ≤ s.size) (t : ByteArray) (hu : ∀ H, ACall Tryz.prog 133 [.v (.string (s.extract p s.size))] H (IsR H (.tup [.v (.string t), .v (.int .i64 ((m + 2 : Nat) : Int))]))) (hm : m ≤ 1000000) (H : Hp) : ACall Tryz.prog 108 [.agg (rdA s p d)] H (IsR H (.tup [.agg (rdA s (p + (m + 2)) d), .v (.string t)])) := by
  refine UCall (n := 30) (H0 := H) (objs := []) Tryz.func108 (by kernel_rfl) rfl (by rw [Tryz.ntmps108]; rfl) .nil <| ?_
  refine Q.rg <| S.dd <| D.box rfl rfl rfl fun p1 => S.dd <| D.al z68 rfl rfl rfl fun p2 => Q.as rfl <| Q.nt <| S.sq <| Q.rg <| Q.fa f68_2 rfl <| Q.lc 1 ty3 rfl rfl rfl <| Q.bi rfl rfl rfl <| Q.nt <| S.cF rfl (bne_f (by omega)) <| UW.skip <| UQ.then <| Q.rg <| Q.fa f68_0 rfl <| Q.lc 1 ty9 rfl rfl rfl <| Q.fa f68_1 rfl <| Q.lc 1 ty3 rfl rfl rfl <| S.qu (Z.slt Tryz.underlying9 rfl (.lo rfl) (by omega) (by omega)) <| S.qu (Z.call rfl rfl (fun H => hu H)) <| Q.mv rfl <| S.qu (Z.ex rfl rfl) <| S.qu (Z.ex rfl rfl) <| Q.as rfl <| Q.as rfl <| Q.nt <| S.sq <| Q.rg <| Q.mv rfl <| Q.bi rfl rfl rfl <| Q.nt <| S.cF rfl (beq_f (by omega)) <| UW.skip <| UQ.then <| Q.rg <| Q.fa f68_1 rfl <| Q.lc 1 ty3 rfl rfl rfl <| Q.mv rfl <| S.qu (Z.add (r := ((p + (m + 2) : Nat) : Int)) rfl rfl (by rw [IntWalk.i64_in _ (by omega)]; omega)) <| ?_
  refine Q.fa f68_1 rfl <| S.s <| D.st 1 ty3 rfl rfl rfl rfl rfl rfl rfl rfl fun _ => Q.nt <| Q.rg <| S.qu (Z.ldw 1 ty68 rfl rfl rfl) <| Q.mv rfl <| S.s <| D.st 0 ty68 rfl rfl rfl rfl rfl rfl rfl rfl fun _ => Q.as rfl <| Q.nt <| UW.ret <| S.rtR (fun hd => res_two rfl (res1_cell (k := 0) hd rfl rfl st68 sz68) (res1_tmp rfl)) <| ?_
  rfl
theorem valueS_spec (s : ByteArray) (p d q : Nat) (hs : s.size ≤ 1000000) (h1 : isB s p 91 = false) (h2 : isB s p 123 = false) (h3 : isB s p 34 = true) (t : ByteArray) (hst : ∀ H, ACall Tryz.prog 108 [.agg (rdA s p d)] H (IsR H (.tup [.agg (rdA s q d), .v (.string t)]))) (H : Hp) : ACall Tryz.prog 71 [.agg (rdA s p d)] H (IsR H (.tup [.agg (rdA s q d), .agg (encV (strV t))])) := by
  have hi : ∀ c H, ACall Tryz.prog 106 [.agg (rdA s p d), .v (.int .u8 c)] H (IsR H (.v (.bool (isB s p c)))) := fun c H => is_spec s p d c hs H
  refine UCall (n := 81) (H0 := H) (objs := []) Tryz.func71 (by kernel_rfl) rfl (by rw [Tryz.ntmps71]; rfl) .nil <| ?_
  refine Q.rg <| S.dd <| D.box rfl rfl rfl fun p1 => S.dd <| D.al z68 rfl rfl rfl fun p2 => S.dd <| D.al z26 rfl rfl rfl fun p3 => Q.nt <| S.sq <| Q.rg <| Q.fa f68_2 rfl <| Q.lc 2 ty3 rfl rfl rfl <| Q.bi rfl rfl rfl <| Q.nt <| S.cF rfl (bne_f (by omega)) <| UW.skip <| UQ.then <| S.sq <| Q.rg <| S.qu (Z.ldw 2 ty68 rfl rfl rfl) <| S.qu (Z.tF (Z.call rfl rfl (fun H => hi 91 H)) h1) <| Q.mv rfl <| Q.on (Z.ldw 2 ty68 rfl rfl rfl) <| Q.on (Z.tF (Z.call rfl rfl (fun H => hi 123 H)) h2) <| Q.pk rfl rfl <| Q.nt <| S.cF rfl rfl <| UW.skip <| UQ.then <| S.sq <| Q.rg <| S.qu (Z.ldw 2 ty68 rfl rfl rfl) <| S.qu (Z.tT (Z.call rfl rfl (fun H => hi 34 H)) h3) <| Q.nt <| S.cT rfl rfl <| Q.rg <| S.qu (Z.ldw 2 ty68 rfl rfl rfl) <| S.qu (Z.call rfl rfl (fun H => hst H)) <| Q.mv rfl <| S.qu (Z.ex rfl rfl) <| S.qu (Z.ex rfl rfl) <| S.dd <| D.al z68 rfl rfl rfl fun p7 => S.s <| D.st 0 ty68 rfl rfl rfl rfl rfl rfl rfl rfl fun _ => Q.as rfl <| Q.nt <| S.sq <| ?_
  refine' UW.draw' (by kernel_rfl) [0, 0, 2, 7, 15] [some 55, some 56, some 57, none, none] [some (55, _), some (56, _), some (57, _), none, none] [3, 4] [0] rfl (by decide) (by decide) (QAll.held (by decide) rfl rfl ?q1x0_0 (QAll.free (by decide) rfl rfl ?q1x0_1 (QAll.free (by decide) rfl rfl ?q1x0_2 (QAll.skip (QAll.skip QAll.nil))))) ?q1x0_k
  case q1x0_0 => exact Z.ldw 0 ty68 rfl rfl rfl
  case q1x0_1 => (intro _; exact Z.mv rfl)
  case q1x0_2 => (intro _; exact Z.call rfl rfl (fun H => strR_spec t H))
  refine CH.cons0 rfl rfl <| D.st 2 ty68 rfl rfl rfl rfl rfl rfl rfl rfl fun _ => CH.cons0 rfl rfl <| D.st 1 ty26 rfl rfl rfl rfl rfl rfl rfl rfl fun _ => CH.nil <| ?_
  simp only [app, finL]
  refine UQ.then <| UW.ret <| UQ.passR <| S.rtR (fun hd => res_two rfl (res1_cell (k := 2) hd rfl rfl st68 sz68) (res1_cell (k := 1) hd rfl rfl st26 sz26)) <| ?_
  rfl
theorem valueN_spec (s : ByteArray) (p d q : Nat) (hs : s.size ≤ 1000000) (h1 : isB s p 91 = false) (h2 : isB s p 123 = false) (h3 : isB s p 34 = false) (h4 : isB s p 45 = false) (n : Int) (hdg : ∀ H, ACall Tryz.prog 109 [.agg (rdA s p d), .v (.int .i64 (p : Int))] H (IsR H (.v (.int .i64 1)))) (hnu : ∀ H, ACall Tryz.prog 110 [.agg (rdA s p d)] H (IsR H (.tup [.agg (rdA s q d), .agg (encV (numV n))]))) (H : Hp) : ACall Tryz.prog 71 [.agg (rdA s p d)] H (IsR H (.tup [.agg (rdA s q d), .agg (encV (numV n))])) := by
  have hi : ∀ c H, ACall Tryz.prog 106 [.agg (rdA s p d), .v (.int .u8 c)] H (IsR H (.v (.bool (isB s p c)))) := fun c H => is_spec s p d c hs H
  refine UCall (n := 81) (H0 := H) (objs := []) Tryz.func71 (by kernel_rfl) rfl (by rw [Tryz.ntmps71]; rfl) .nil <| ?_
  refine Q.rg <| S.dd <| D.box rfl rfl rfl fun p1 => S.dd <| D.al z68 rfl rfl rfl fun p2 => S.dd <| D.al z26 rfl rfl rfl fun p3 => Q.nt <| S.sq <| Q.rg <| Q.fa f68_2 rfl <| Q.lc 2 ty3 rfl rfl rfl <| Q.bi rfl rfl rfl <| Q.nt <| S.cF rfl (bne_f (by omega)) <| UW.skip <| UQ.then <| S.sq <| Q.rg <| S.qu (Z.ldw 2 ty68 rfl rfl rfl) <| S.qu (Z.tF (Z.call rfl rfl (fun H => hi 91 H)) h1) <| Q.mv rfl <| Q.on (Z.ldw 2 ty68 rfl rfl rfl) <| Q.on (Z.tF (Z.call rfl rfl (fun H => hi 123 H)) h2) <| Q.pk rfl rfl <| Q.nt <| S.cF rfl rfl <| UW.skip <| UQ.then <| S.sq <| Q.rg <| S.qu (Z.ldw 2 ty68 rfl rfl rfl) <| S.qu (Z.tF (Z.call rfl rfl (fun H => hi 34 H)) h3) <| Q.nt <| S.cF rfl rfl <| UW.skip <| UQ.then <| S.sq <| Q.rg <| S.qu (Z.ldw 2 ty68 rfl rfl rfl) <| S.qu (Z.tF (Z.call rfl rfl (fun H => hi 45 H)) h4) <| Q.mv rfl <| Q.on (Z.ldw 2 ty68 rfl rfl rfl) <| Q.on (Z.fa f68_1 rfl) <| Q.on (Z.ldc 2 ty3 rfl rfl rfl) <| Q.on (Z.call rfl rfl (fun H => hdg H)) <| Q.on (Z.bi rfl rfl rfl) <| Q.pk rfl rfl <| Q.nt <| S.cT rfl (decide_eq_true (by omega)) <| Q.rg <| S.qu (Z.ldw 2 ty68 rfl rfl rfl) <| S.qu (Z.call rfl rfl (fun H => hnu H)) <| Q.mv rfl <| ?_
  refine S.qu (Z.ex rfl rfl) <| S.qu (Z.ex rfl rfl) <| S.dd <| D.al z68 rfl rfl rfl fun p9 => S.dd <| D.al z26 rfl rfl rfl fun p10 => S.s <| D.st 1 ty68 rfl rfl rfl rfl rfl rfl rfl rfl fun _ => S.s <| D.st 0 ty26 rfl rfl rfl rfl rfl rfl rfl rfl fun _ => Q.nt <| S.sq <| ?_
  refine' UW.drawk (by kernel_rfl) [0] [0, 0, 1, 7] [some 72, some 73, none, none] [some (72, _), some (73, _), none, none] [2, 3] [0] rfl (by decide) (by decide) (QAll.held (by decide) rfl rfl ?q2x0_0 (QAll.kept (by decide) rfl rfl ?q2x0_1 (QAll.skip (QAll.skip QAll.nil)))) ?q2x0_k
  case q2x0_0 => exact Z.ldw 1 ty68 rfl rfl rfl
  case q2x0_1 => (intro _ hK; exact Z.kw 0 hK ty26 rfl rfl rfl)
  refine CH.cons0 rfl rfl ?_ (.c 0 rfl .n)
  refine D.st 3 ty68 rfl rfl rfl rfl rfl rfl rfl rfl fun _ => ?_
  refine CH.cons0 rfl rfl ?_ (.c 0 rfl .n)
  refine D.st 2 ty26 rfl rfl rfl rfl rfl rfl rfl rfl fun _ => ?_
  refine CH.nil ?_ (.c 0 rfl .n)
  simp only [app, finL]
  refine UQ.then <| UW.ret <| UQ.passR <| S.rtR (fun hd => res_two rfl (res1_cell (k := 3) hd rfl rfl st68 sz68) (res1_cell (k := 2) hd rfl rfl st26 sz26)) <| ?_
  rfl
theorem valueO_spec (s : ByteArray) (p d q : Nat) (hs : s.size ≤ 1000000) (hd : d < 32) (h1 : isB s p 91 = false) (h2 : isB s p 123 = true) (v : V) (hma : ∀ H, ACall Tryz.prog 107 [.agg (rdA s p (d + 1)), .v (.int .u8 125)] H (IsR H (.tup [.agg (rdA s q (d + 1)), .agg (encV v)]))) (H : Hp) : ACall Tryz.prog 71 [.agg (rdA s p d)] H (IsR H (.tup [.agg (rdA s q d), .agg (encV v)])) := by
  have hi : ∀ c d H, ACall Tryz.prog 106 [.agg (rdA s p d), .v (.int .u8 c)] H (IsR H (.v (.bool (isB s p c)))) := fun c d H => is_spec s p d c hs H
  refine UCall (n := 81) (H0 := H) (objs := []) Tryz.func71 (by kernel_rfl) rfl (by rw [Tryz.ntmps71]; rfl) .nil <| ?_
  refine Q.rg <| S.dd <| D.box rfl rfl rfl fun p1 => S.dd <| D.al z68 rfl rfl rfl fun p2 => S.dd <| D.al z26 rfl rfl rfl fun p3 => Q.nt <| S.sq <| Q.rg <| Q.fa f68_2 rfl <| Q.lc 2 ty3 rfl rfl rfl <| Q.bi rfl rfl rfl <| Q.nt <| S.cF rfl (bne_f (by omega)) <| UW.skip <| UQ.then <| S.sq <| Q.rg <| S.qu (Z.ldw 2 ty68 rfl rfl rfl) <| S.qu (Z.tF (Z.call rfl rfl (fun H => hi 91 d H)) h1) <| Q.mv rfl <| Q.on (Z.ldw 2 ty68 rfl rfl rfl) <| Q.on (Z.tT (Z.call rfl rfl (fun H => hi 123 d H)) h2) <| Q.pk rfl rfl <| Q.nt <| S.cT rfl rfl <| S.sq <| Q.rg <| Q.fa f68_3 rfl <| Q.lc 2 ty3 rfl rfl rfl <| Q.bi rfl rfl rfl <| Q.nt <| S.cF rfl (decide_eq_false (by omega)) <| UW.skip <| UQ.then <| Q.rg <| Q.fa f68_3 rfl <| Q.lc 2 ty3 rfl rfl rfl <| S.qu (Z.add (r := ((d + 1 : Nat) : Int)) rfl rfl (IntWalk.i64_in _ (by omega))) <| Q.fa f68_3 rfl <| S.s <| D.st 2 ty3 rfl rfl rfl rfl rfl rfl rfl rfl fun _ => Q.nt <| Q.rg <| Q.as rfl <| Q.nt <| S.sq <| Q.rg <| S.qu (Z.ldw 2 ty68 rfl rfl rfl) <| S.qu (Z.tT (Z.call rfl rfl (fun H => hi 123 (d + 1) H)) h2) <| Q.nt <| S.cT rfl rfl <| S.rg <| Q.as rfl <| ?_
  refine Q.nt <| Q.rg <| S.qu (Z.ldw 2 ty68 rfl rfl rfl) <| Q.mv rfl <| S.qu (Z.call rfl rfl (fun H => hma H)) <| Q.mv rfl <| S.qu (Z.ex rfl rfl) <| S.qu (Z.ex rfl rfl) <| S.dd <| D.al z68 rfl rfl rfl fun p5 => S.dd <| D.al z26 rfl rfl rfl fun p6 => S.s <| D.st 1 ty68 rfl rfl rfl rfl rfl rfl rfl rfl fun _ => S.s <| D.stw 0 ty26 rfl rfl rfl rfl (by exact encV_cell _) (encV_len _) rfl rfl fun _ => ?_
  refine Q.nt <| Q.rg <| Q.fa f68_3 rfl <| Q.lc 1 ty3 rfl rfl rfl <| S.qu (Z.sub (r := (d : Int)) rfl rfl (by rw [IntWalk.i64_in _ (by omega)]; omega)) <| ?_
  refine Q.fa f68_3 rfl <| S.s <| D.st 1 ty3 rfl rfl rfl rfl rfl rfl rfl rfl fun _ => Q.nt <| S.sq <| ?_
  refine' UW.drawk (by kernel_rfl) [0] [0, 0, 1, 7] [some 46, some 47, none, none] [some (46, _), some (47, _), none, none] [2, 3] [0] rfl (by decide) (by decide) (QAll.held (by decide) rfl rfl ?q3x0_0 (QAll.kept (by decide) rfl rfl ?q3x0_1 (QAll.skip (QAll.skip QAll.nil)))) ?q3x0_k
  case q3x0_0 => exact Z.ldw 1 ty68 rfl rfl rfl
  case q3x0_1 => (intro _ hK; exact Z.kw 0 hK ty26 rfl rfl (encV_len _))
  refine CH.cons0 rfl rfl ?_ (.c 0 rfl .n)
  refine D.st 3 ty68 rfl rfl rfl rfl rfl rfl rfl rfl fun _ => ?_
  refine CH.cons0 rfl rfl ?_ (.c 0 rfl .n)
  refine D.stw 2 ty26 rfl rfl rfl rfl (by exact encV_cell _) (encV_len _) rfl rfl fun _ => ?_
  refine CH.nil ?_ (.c 0 rfl .n)
  simp only [app, finL]
  refine UQ.then <| UW.ret <| UQ.passR <| S.rtR (fun hd => res_two rfl (res1_cell (k := 3) hd rfl rfl st68 sz68) (res1_cell (k := 2) hd rfl rfl st26 (by rw [encV_len]; exact sz26))) <| ?_
  rfl
theorem pair_spec (s : ByteArray) (p d q q2 : Nat) (hs : s.size ≤ 1000000) (hq : q ≤ 1000000) (v u : V) (key : ByteArray) (hv : Fits v) (hks : ∀ k ∈ v.ks, k.size ≤ 4000000) (hno : (getV v key).2 = false)
    (hst : ∀ H, ACall Tryz.prog 108 [.agg (rdA s p d)] H (IsR H (.tup [.agg (rdA s q d), .v (.string key)])))
    (hb1 : ∀ H, ACall Tryz.prog 70 [.agg (rdA s q d)] H (IsR H (.agg (rdA s q d)))) (hc : isB s q 58 = true)
    (hb2 : ∀ H, ACall Tryz.prog 70 [.agg (rdA s (q + 1) d)] H (IsR H (.agg (rdA s (q + 1) d))))
    (hval : ∀ H, ACall Tryz.prog 71 [.agg (rdA s (q + 1) d)] H (IsR H (.tup [.agg (rdA s q2 d), .agg (encV u)]))) (H : Hp) : ACall Tryz.prog 131 [.agg (rdA s p d), .agg (encV v)] H (IsR H (.tup [.agg (rdA s q2 d), .agg (encV (withV v key u))])) := by
  have hg : ∀ H, ACall Tryz.prog 22 [.agg (encV v), .v (.string key)] H (IsR H (.tup [.agg (encV (getV v key).1), .v (.bool false)])) := fun H => hno ▸ getR_spec v hv key H
  have hw : ∀ H, ACall Tryz.prog 13 [.agg (encV v), .v (.string key), .agg (encV u)] H (IsR H (.agg (encV (withV v key u)))) := fun H => withR_spec v hv hks key u H
  generalize (getV v key).1 = g at *
  generalize withV v key u = w at *
  refine UCall (n := 55) (H0 := H) (objs := []) Tryz.func131 (by kernel_rfl) rfl (by rw [Tryz.ntmps131]; rfl) .nil <| ?_
  focus
    refine Q.rg <| S.dd <| D.box rfl rfl rfl fun p2 => S.dd <| D.box rfl rfl (by exact encV_cell _) fun p3 => ?_
    refine S.dd <| D.al z68 rfl rfl rfl fun p4 => S.dd <| D.al z26 rfl rfl rfl fun p5 => Q.nt <| Q.rg <| Q.fa f68_1 rfl <| Q.lc 3 ty3 rfl rfl rfl <| Q.as rfl <| Q.nt <| Q.rg <| S.qu (Z.ldw 3 ty68 rfl rfl rfl) <| S.qu (Z.call rfl rfl (fun H => hst H)) <| Q.mv rfl <| S.qu (Z.ex rfl rfl) <| S.qu (Z.ex rfl rfl) <| S.dd <| D.al z68 rfl rfl rfl fun p7 => S.s <| D.st 0 ty68 rfl rfl rfl rfl rfl rfl rfl rfl fun _ => Q.as rfl <| Q.nt <| Q.rg <| S.qu (Z.ldw 3 ty26 rfl rfl (encV_len _)) <| Q.mv rfl <| S.qu (Z.call rfl rfl (fun H => hg H)) <| Q.mv rfl <| S.qu (Z.ex rfl rfl) <| S.qu (Z.ex rfl rfl) <| S.dd <| D.al z26 rfl rfl rfl fun p9 => S.s <| D.stw 0 ty26 rfl rfl rfl rfl (by exact encV_cell _) (encV_len _) rfl rfl fun _ => ?_
    refine Q.as rfl <| Q.nt <| S.sq <| Q.rg <| Q.fa f68_2 rfl <| Q.lc 1 ty3 rfl rfl rfl <| Q.bi rfl rfl rfl <| Q.mv rfl <| ?_
    refine S.tE 29 (fun hc29 => ?_) (fun hc29 => ?_)
    rotate_left
    omega
    refine Q.on (Z.mv rfl) <| Q.pk rfl rfl <| Q.nt <| S.cF rfl rfl <| UW.skip <| UQ.then <| Q.rg <| S.qu (Z.ldw 1 ty68 rfl rfl rfl) <| S.qu (Z.call rfl rfl (fun H => hb1 H)) <| S.qu (Z.call rfl rfl (fun H => need_spec s q d 58 hs hq hc H)) <| S.qu (Z.call rfl rfl (fun H => hb2 H)) <| S.qu (Z.call rfl rfl (fun H => hval H)) <| Q.mv rfl <| S.qu (Z.ex rfl rfl) <| S.qu (Z.ex rfl rfl) <| S.dd <| D.al z68 rfl rfl rfl fun p11 => S.dd <| D.al z26 rfl rfl rfl fun p12 => S.s <| D.st 1 ty68 rfl rfl rfl rfl rfl rfl rfl rfl fun _ => S.s <| D.stw 0 ty26 rfl rfl rfl rfl (by exact encV_cell _) (encV_len _) rfl rfl fun _ => ?_
    refine Q.nt <| S.sq <| Q.rg <| Q.fa f68_2 rfl <| Q.lc 1 ty3 rfl rfl rfl <| Q.bi rfl rfl rfl <| Q.nt <| S.cF rfl (bne_f (by omega)) <| UW.skip <| UQ.then <| S.sq <| ?_
    refine' UW.draw' (by kernel_rfl) [0, 0, 0, 0, 14, 31, 63] [some 50, some 51, some 52, some 53, some 54, none, none] [some (50, _), some (51, _), some (52, _), some (53, _), some (54, _), none, none] [5, 6] [0, 1, 3] rfl (by decide) (by decide) (QAll.held (by decide) rfl rfl ?q4x0_0 (QAll.held (by decide) rfl rfl ?q4x0_1 (QAll.free (by decide) rfl rfl ?q4x0_2 (QAll.held (by decide) rfl rfl ?q4x0_3 (QAll.free (by decide) rfl rfl ?q4x0_4 (QAll.skip (QAll.skip QAll.nil))))))) ?q4x0_k
    case q4x0_0 => exact Z.ldw 1 ty68 rfl rfl rfl
    case q4x0_1 => exact Z.ldw 6 ty26 rfl rfl (encV_len _)
    case q4x0_2 => (intro _; exact Z.mv rfl)
    case q4x0_3 => exact Z.ldw 0 ty26 rfl rfl (encV_len _)
    case q4x0_4 => (intro _; exact Z.call rfl rfl (fun H => hw H))
    refine CH.cons0 rfl rfl <| D.st 5 ty68 rfl rfl rfl rfl rfl rfl rfl rfl fun _ => CH.cons0 rfl rfl <| D.stw 4 ty26 rfl rfl rfl rfl (by exact encV_cell _) (encV_len _) rfl rfl fun _ => ?_
    refine CH.nil <| ?_
    simp only [app, finL]
    refine UQ.then <| UW.ret <| S.rtR (fun hd => res_two rfl (res1_cell (k := 5) hd rfl rfl st68 sz68) (res1_cell (k := 4) hd rfl rfl st26 (by rw [encV_len]; exact sz26))) <| ?_
    rfl
theorem many_spec (s : ByteArray) (p d m : Nat) (hs : s.size ≤ 1000000) (hp : p ≤ 1000000) (hm : 0 < m) (q e : Nat → Nat) (vv : Nat → V) (he : ∀ i, i < m → e i ≤ 1000000)
    (hq0 : q 0 = p + 1) (hv0 : vv 0 = .mk 5 0 ⟨#[]⟩ [] [])
    (hb0 : ∀ H, ACall Tryz.prog 70 [.agg (rdA s (p + 1) d)] H (IsR H (.agg (rdA s (p + 1) d)))) (hn0 : isB s (p + 1) 125 = false)
    (hpair : ∀ i, i < m → ∀ H, ACall Tryz.prog 131 [.agg (rdA s (q i) d), .agg (encV (vv i))] H (IsR H (.tup [.agg (rdA s (e i) d), .agg (encV (vv (i + 1)))])))
    (hbe : ∀ i, i < m → ∀ H, ACall Tryz.prog 70 [.agg (rdA s (e i) d)] H (IsR H (.agg (rdA s (e i) d))))
    (hmid : ∀ i, i + 1 < m → isB s (e i) 125 = false ∧ isB s (e i) 44 = true ∧ q (i + 1) = e i + 1)
    (hbm : ∀ i, i + 1 < m → ∀ H, ACall Tryz.prog 70 [.agg (rdA s (e i + 1) d)] H (IsR H (.agg (rdA s (e i + 1) d))))
    (hend : isB s (e (m - 1)) 125 = true) (H : Hp) : ACall Tryz.prog 107 [.agg (rdA s p d), .v (.int .u8 125)] H (IsR H (.tup [.agg (rdA s (e (m - 1) + 1) d), .agg (encV (vv m))])) := by
  have hi : ∀ p c H, ACall Tryz.prog 106 [.agg (rdA s p d), .v (.int .u8 c)] H (IsR H (.v (.bool (isB s p c)))) := fun p c H => is_spec s p d c hs H
  refine UCall (n := 71) (H0 := H) (objs := []) Tryz.func107 (by kernel_rfl) rfl (by rw [Tryz.ntmps107]; rfl) .nil <| ?_
  refine Q.rg <| S.dd <| D.box rfl rfl rfl fun p2 => S.dd <| D.al z68 rfl rfl rfl fun p4 => S.dd <| D.al z26 rfl rfl rfl fun p5 => Q.nt <| Q.rg <| S.qu (Z.bd [0] bt26 rfl rfl rfl rfl rfl rfl) <| S.dd <| D.al z26 rfl rfl rfl fun p6 => S.s <| D.st 0 ty26 rfl rfl rfl rfl rfl rfl rfl rfl fun _ => Q.nt <| S.sq <| Q.rg <| Q.mv rfl <| Q.bi rfl rfl rfl <| Q.nt <| S.cT rfl (beq_t (by omega)) <| S.rg <| Q.fa f26_0 rfl <| S.s <| D.st 0 ty3 rfl rfl rfl rfl rfl rfl rfl rfl fun _ => Q.nt <| Q.rg <| Q.fa f68_1 rfl <| Q.lc 3 ty3 rfl rfl rfl <| S.qu (Z.add (r := ((p + 1 : Nat) : Int)) rfl rfl (IntWalk.i64_in _ (by omega))) <| Q.fa f68_1 rfl <| S.s <| D.st 3 ty3 rfl rfl rfl rfl rfl rfl rfl rfl fun _ => Q.nt <| Q.rg <| S.qu (Z.ldw 3 ty68 rfl rfl rfl) <| S.qu (Z.call rfl rfl (fun H => hb0 H)) <| S.s <| D.st 3 ty68 rfl rfl rfl rfl rfl rfl rfl rfl fun _ => Q.nt <| S.sq <| Q.rg <| S.qu (Z.ldw 3 ty68 rfl rfl rfl) <| Q.mv rfl <| S.qu (Z.tF (Z.call rfl rfl (fun H => hi (p + 1) 125 H)) hn0) <| Q.nt <| S.cF rfl rfl <| UW.skip <| UQ.then <| S.sq <| UW.block <| S.loop (fun j : Nat × V × Nat => [(6, .ptr p6 0), (5, .ptr p5 0), (4, .ptr p4 0), (2, .ptr p2 0), (1, .v (.int .u8 125))]) (fun j => [(p6, .box 26 (encV j.2.1)), (p5, .box 26 (encV zeroV)), (p4, .box 68 [.v (.string ⟨#[]⟩), .v (.int .i64 0), .v (.int .i64 0), .v (.int .i64 0)]), (p2, .box 68 (rdA s j.2.2 d))]) (fun j => j.1 < m ∧ j.2.1 = vv j.1 ∧ j.2.2 = q j.1) (fun j => m - j.1) (0, .mk 5 0 ⟨#[]⟩ [] [], p + 1) ⟨hm, hv0.symm, hq0.symm⟩ ⟨rfl, rfl, rfl, rfl, rfl, trivial⟩ (.refl _) <| ?_
  rintro ⟨j, y, a⟩ ⟨hj, hy, ha⟩
  dsimp only at hj hy ha ⊢
  subst ha
  have hpj := hpair j hj
  have hbj := hbe j hj
  have hej := he j hj
  rw [← hy] at hpj
  by_cases hl : j + 1 < m
  · obtain ⟨g1, g2, g3⟩ := hmid j hl
    have hbm' := hbm j hl
    generalize hyy : vv (j + 1) = y1 at *
    generalize hee : e j = ej at *
    generalize q j = qj at *
    refine S.sq <| Q.rg <| Q.fa f68_2 rfl <| Q.lc 3 ty3 rfl rfl rfl <| Q.bi rfl rfl rfl <| Q.nt <| S.cT rfl (beq_t (by omega)) <| UW.skip <| UQ.then <| UW.block <| S.sq <| Q.rg <| Q.mv rfl <| Q.bi rfl rfl rfl <| Q.nt <| S.cT rfl (beq_t (by omega)) <| Q.rg <| S.qu (Z.ldw 3 ty68 rfl rfl rfl) <| S.qu (Z.ldw 0 ty26 rfl rfl (encV_len _)) <| S.qu (Z.call rfl rfl (fun H => hpj H)) <| Q.mv rfl <| S.qu (Z.ex rfl rfl) <| S.qu (Z.ex rfl rfl) <| S.dd <| D.al z68 rfl rfl rfl fun p7 => S.dd <| D.al z26 rfl rfl rfl fun p8 => S.s <| D.st 1 ty68 rfl rfl rfl rfl rfl rfl rfl rfl fun _ => S.s <| D.stw 0 ty26 rfl rfl rfl rfl (by exact encV_cell _) (encV_len _) rfl rfl fun _ => ?_
    refine Q.nt <| Q.rg <| S.qu (Z.ldw 1 ty68 rfl rfl rfl) <| S.s <| D.st 5 ty68 rfl rfl rfl rfl rfl rfl rfl rfl fun _ => Q.nt <| S.rg <| S.qu (Z.ldw 0 ty26 rfl rfl (encV_len _)) <| S.s <| D.stw 2 ty26 rfl rfl rfl rfl (by exact encV_cell _) (encV_len _) (encV_len _) rfl fun _ => ?_
    refine Q.nt <| Q.rg <| S.qu (Z.ldw 5 ty68 rfl rfl rfl) <| S.qu (Z.call rfl rfl (fun H => hbj H)) <| S.s <| D.st 5 ty68 rfl rfl rfl rfl rfl rfl rfl rfl fun _ => Q.nt <| S.sq <| Q.rg <| S.qu (Z.ldw 5 ty68 rfl rfl rfl) <| Q.mv rfl <| S.qu (Z.tF (Z.call rfl rfl (fun H => hi ej 125 H)) g1) <| Q.nt <| S.cF rfl rfl <| UW.skip <| UQ.then <| S.rg <| S.qu (Z.ldw 5 ty68 rfl rfl rfl) <| S.qu (Z.call rfl rfl (fun H => need_spec s ej d 44 hs hej g2 H)) <| S.qu (Z.call rfl rfl (fun H => hbm' H)) <| S.s <| D.st 5 ty68 rfl rfl rfl rfl rfl rfl rfl rfl fun _ => US.nil <| UQ.blockN <| ?_
    refine S.back (j + 1, y1, ej + 1) ⟨rfl, rfl, rfl, rfl, rfl, trivial⟩ (by repeat (first | exact List.Sublist.refl _ | exact List.nil_sublist _ | refine .cons_cons _ ?_ | refine .cons _ ?_)) ?_ (by omega)
    exact ⟨hl, hyy.symm, g3.symm⟩
  · have hjm : m = j + 1 := by omega
    subst hjm
    rw [show j + 1 - 1 = j from by omega] at hend ⊢
    clear hpair hbe hmid hbm he
    generalize vv (j + 1) = y1 at *
    generalize e j = ej at *
    generalize q j = qj at *
    refine S.sq <| Q.rg <| Q.fa f68_2 rfl <| Q.lc 3 ty3 rfl rfl rfl <| Q.bi rfl rfl rfl <| Q.nt <| S.cT rfl (beq_t (by omega)) <| UW.skip <| UQ.then <| UW.block <| S.sq <| Q.rg <| Q.mv rfl <| Q.bi rfl rfl rfl <| Q.nt <| S.cT rfl (beq_t (by omega)) <| Q.rg <| S.qu (Z.ldw 3 ty68 rfl rfl rfl) <| S.qu (Z.ldw 0 ty26 rfl rfl (encV_len _)) <| S.qu (Z.call rfl rfl (fun H => hpj H)) <| Q.mv rfl <| S.qu (Z.ex rfl rfl) <| S.qu (Z.ex rfl rfl) <| S.dd <| D.al z68 rfl rfl rfl fun p7 => S.dd <| D.al z26 rfl rfl rfl fun p8 => S.s <| D.st 1 ty68 rfl rfl rfl rfl rfl rfl rfl rfl fun _ => S.s <| D.stw 0 ty26 rfl rfl rfl rfl (by exact encV_cell _) (encV_len _) rfl rfl fun _ => ?_
    refine Q.nt <| Q.rg <| S.qu (Z.ldw 1 ty68 rfl rfl rfl) <| S.s <| D.st 5 ty68 rfl rfl rfl rfl rfl rfl rfl rfl fun _ => Q.nt <| S.rg <| S.qu (Z.ldw 0 ty26 rfl rfl (encV_len _)) <| S.s <| D.stw 2 ty26 rfl rfl rfl rfl (by exact encV_cell _) (encV_len _) (encV_len _) rfl fun _ => ?_
    refine Q.nt <| Q.rg <| S.qu (Z.ldw 5 ty68 rfl rfl rfl) <| S.qu (Z.call rfl rfl (fun H => hbj H)) <| S.s <| D.st 5 ty68 rfl rfl rfl rfl rfl rfl rfl rfl fun _ => Q.nt <| S.sq <| Q.rg <| S.qu (Z.ldw 5 ty68 rfl rfl rfl) <| Q.mv rfl <| S.qu (Z.tT (Z.call rfl rfl (fun H => hi ej 125 H)) hend) <| Q.nt <| S.cT rfl rfl <| Q.rg <| Q.fa f68_1 rfl <| Q.lc 5 ty3 rfl rfl rfl <| S.qu (Z.add (r := ((ej + 1 : Nat) : Int)) rfl rfl (IntWalk.i64_in _ (by omega))) <| Q.fa f68_1 rfl <| S.s <| D.st 5 ty3 rfl rfl rfl rfl rfl rfl rfl rfl fun _ => Q.nt <| S.sq <| ?_
    refine' UW.drawk (by kernel_rfl) [2] [0, 0, 1, 7] [some 64, some 65, none, none] [some (64, _), some (65, _), none, none] [2, 3] [0] rfl (by decide) (by decide) (QAll.held (by decide) rfl rfl ?q7x0_0 (QAll.kept (by decide) rfl rfl ?q7x0_1 (QAll.skip (QAll.skip QAll.nil)))) ?q7x0_k
    case q7x0_0 => exact Z.ldw 5 ty68 rfl rfl rfl
    case q7x0_1 => (intro _ hK; exact Z.kw 0 hK ty26 rfl rfl (encV_len _))
    refine CH.cons0 rfl rfl ?_ (.c 2 rfl .n)
    refine D.st 4 ty68 rfl rfl rfl rfl rfl rfl rfl rfl fun _ => ?_
    refine CH.cons0 rfl rfl ?_ (.c 2 rfl .n)
    refine D.stw 3 ty26 rfl rfl rfl rfl (by exact encV_cell _) (encV_len _) rfl rfl fun _ => ?_
    refine CH.nil ?_ (.c 2 rfl .n)
    simp only [app, finL]
    refine UQ.then <| UW.ret <| UQ.passR <| UQ.blockR <| UQ.passR <| UQ.blockR <| UQ.passR <| S.rtR (fun hd => res_two rfl (res1_cell (k := 4) hd rfl rfl st68 sz68) (res1_cell (k := 3) hd rfl rfl st26 (by rw [encV_len]; exact sz26))) <| ?_
    rfl
theorem parse_spec (s : ByteArray) (hs : s.size ≤ 1000) (hck : chkR s < 0) (v : V)
    (hb0 : ∀ H, ACall Tryz.prog 70 [.agg (rdA s 0 0)] H (IsR H (.agg (rdA s 0 0))))
    (hval : ∀ H, ACall Tryz.prog 71 [.agg (rdA s 0 0)] H (IsR H (.tup [.agg (rdA s s.size 0), .agg (encV v)])))
    (hb1 : ∀ H, ACall Tryz.prog 70 [.agg (rdA s s.size 0)] H (IsR H (.agg (rdA s s.size 0)))) (H : Hp) : ACall Tryz.prog 36 [.v (.string s)] H (IsR H (.tup [.agg (encV v), .v (.int .i64 0), .v (.int .i64 0)])) := by
  have hc : ∀ H, ACall Tryz.prog 58 [.v (.string s)] H (IsR H (.v (.int .i64 (chkR s)))) := fun H => checkR_spec s (by omega) H
  generalize chkR s = ck at *
  refine UCall (n := 48) (H0 := H) (objs := []) Tryz.func36 (by kernel_rfl) rfl (by rw [Tryz.ntmps36]; rfl) .nil <| ?_
  focus
    refine Q.rg <| S.dd <| D.al z26 rfl rfl rfl fun p2 => Q.as rfl <| Q.as rfl <| Q.nt <| S.sq <| Q.rg <| Q.mv rfl <| S.qu (Z.lnt Tryz.underlying9 rfl) <| Q.bi rfl rfl rfl <| Q.nt <| S.cF rfl (decide_eq_false (by omega)) <| UW.skip <| UQ.then <| Q.rg <| Q.mv rfl <| S.qu (Z.call rfl rfl (fun H => hc H)) <| Q.as rfl <| Q.nt <| S.sq <| Q.rg <| Q.mv rfl <| Q.bi rfl rfl rfl <| Q.nt <| S.cF rfl (decide_eq_false (by omega)) <| UW.skip <| UQ.then <| Q.rg <| Q.mv rfl <| S.qu (Z.bd [0] bt68 rfl rfl rfl rfl rfl rfl) <| S.qu (Z.call rfl rfl (fun H => hb0 H)) <| S.qu (Z.call rfl rfl (fun H => hval H)) <| Q.mv rfl <| S.qu (Z.ex rfl rfl) <| S.qu (Z.ex rfl rfl) <| S.dd <| D.al z68 rfl rfl rfl fun p6 => S.dd <| D.al z26 rfl rfl rfl fun p7 => S.s <| D.st 1 ty68 rfl rfl rfl rfl rfl rfl rfl rfl fun _ => S.s <| D.stw 0 ty26 rfl rfl rfl rfl (by exact encV_cell _) (encV_len _) rfl rfl fun _ => ?_
    refine Q.nt <| Q.rg <| S.qu (Z.ldw 1 ty68 rfl rfl rfl) <| S.qu (Z.call rfl rfl (fun H => hb1 H)) <| S.s <| D.st 1 ty68 rfl rfl rfl rfl rfl rfl rfl rfl fun _ => Q.nt <| S.sq <| Q.rg <| Q.fa f68_2 rfl <| Q.lc 1 ty3 rfl rfl rfl <| Q.bi rfl rfl rfl <| Q.mv rfl <| ?_
    refine S.tE 30 (fun hc30 => ?_) (fun hc30 => ?_)
    rotate_left
    omega
    refine Q.on (Z.fa f68_1 rfl) <| Q.on (Z.ldc 1 ty3 rfl rfl rfl) <| Q.on (Z.mv rfl) <| Q.on (Z.lnt Tryz.underlying9 rfl) <| Q.on (Z.bi rfl rfl rfl) <| Q.pk rfl rfl <| Q.nt <| S.cF rfl (decide_eq_false (by omega)) <| UW.skip <| UQ.then <| S.sq <| Q.rg <| Q.fa f68_2 rfl <| Q.lc 1 ty3 rfl rfl rfl <| Q.bi rfl rfl rfl <| Q.nt <| S.cF rfl (bne_f (by omega)) <| UW.skip <| UQ.then <| Q.rg <| S.qu (Z.ldw 0 ty26 rfl rfl (encV_len _)) <| S.s <| D.stw 2 ty26 rfl rfl rfl rfl (by exact encV_cell _) (encV_len _) rfl rfl fun _ => ?_
    refine Q.as rfl <| Q.as rfl <| Q.nt <| UW.ret <| S.rtR (fun hd => res_many rfl (by decide) rfl (res1s_cons (res1_cell (k := 2) hd rfl rfl st26 (by rw [encV_len]; exact sz26)) (res1s_cons (res1_tmp rfl) (res1s_cons (res1_tmp rfl) (res1s_nil))))) <| ?_
    rfl
end Go.Proofs.YtgmfgmbgmjbdhaaGreatDoor
end
