/- The document's reader of objects of texts and numbers. -/
import Derived.Test.YtgmfgmbgmjbdhaaGreatDoorKs27
import Derived.Test.YtgmfgmbgmjbdhaaGreatDoorKs24
namespace Go.Proofs.YtgmfgmbgmjbdhaaGreatDoor
open Go Go.RowKit Go.Eng
set_option linter.unusedSimpArgs false
set_option linter.unusedVariables false
set_option maxRecDepth 100000
set_option maxHeartbeats 4000000
theorem strP_spec (s : ByteArray) (p d m : Nat) (hs : s.size ≤ 1000000) (hp : p ≤ s.size) (t : ByteArray) (hu : ∀ H, ACall Tryz.prog 133 [.v (.string (s.extract p s.size))] H (IsR H (.tup [.v (.string t), .v (.int .i64 ((m + 2 : Nat) : Int))]))) (hm : m ≤ 1000000) (H : Hp) : ACall Tryz.prog 108 [.agg (rdA s p d)] H (IsR H (.tup [.agg (rdA s (p + (m + 2)) d), .v (.string t)])) := by
  refine UCall (n := 30) (H0 := H) (objs := []) Tryz.func108 (by kernel_rfl) rfl (by rw [Tryz.ntmps108]; rfl) .nil ?_
  refine S.sq (S.rg ?_)
  refine S.dd (D.box rfl rfl rfl (fun p1 => ?_))
  refine S.dd (D.al z68 rfl rfl rfl (fun p2 => ?_))
  refine S.qu (Z.as rfl) ?_
  refine US.nil (UQ.then (S.sq (S.sq (S.rg ?_))))
  refine S.qu (Z.fa f68_2 rfl) ?_
  refine S.qu (Z.ldc 1 ty3 rfl rfl rfl) ?_
  refine S.qu (Z.bi rfl rfl rfl) ?_
  refine US.nil (UQ.then ?_)
  refine S.cF rfl (bne_f (by omega)) ?_
  refine UW.skip (UQ.then (S.sq (S.rg ?_)))
  refine S.qu (Z.fa f68_0 rfl) ?_
  refine S.qu (Z.ldc 1 ty9 rfl rfl rfl) ?_
  refine S.qu (Z.fa f68_1 rfl) ?_
  refine S.qu (Z.ldc 1 ty3 rfl rfl rfl) ?_
  refine S.qu (Z.slt Tryz.underlying9 rfl (.lo rfl) (by omega) (by omega)) ?_
  refine S.qu (Z.call rfl rfl (fun H => hu H)) ?_
  refine S.qu (Z.mv rfl) ?_
  refine S.qu (Z.ex rfl rfl) ?_
  refine S.qu (Z.ex rfl rfl) ?_
  refine S.qu (Z.as rfl) ?_
  refine S.qu (Z.as rfl) ?_
  refine US.nil (UQ.then (S.sq (S.sq (S.rg ?_))))
  refine S.qu (Z.mv rfl) ?_
  refine S.qu (Z.bi rfl rfl rfl) ?_
  refine US.nil (UQ.then ?_)
  refine S.cF rfl (beq_f (by omega)) ?_
  refine UW.skip (UQ.then (S.sq (S.rg ?_)))
  refine S.qu (Z.fa f68_1 rfl) ?_
  refine S.qu (Z.ldc 1 ty3 rfl rfl rfl) ?_
  refine S.qu (Z.mv rfl) ?_
  refine S.qu (Z.add (r := ((p + (m + 2) : Nat) : Int)) rfl rfl (by rw [IntWalk.i64_in _ (by omega)]; omega)) ?_
  refine S.qu (Z.fa f68_1 rfl) ?_
  refine S.s (D.st 1 ty3 rfl rfl rfl rfl rfl rfl rfl rfl (fun _ => ?_))
  refine US.nil (UQ.then (S.sq (S.rg ?_)))
  refine S.qu (Z.ldw 1 ty68 rfl rfl rfl) ?_
  refine S.qu (Z.mv rfl) ?_
  refine S.s (D.st 0 ty68 rfl rfl rfl rfl rfl rfl rfl rfl (fun _ => ?_))
  refine S.qu (Z.as rfl) ?_
  refine US.nil (UQ.then (UW.ret ?_))
  refine S.rtR (fun hd => res_two rfl (res1_cell (k := 0) hd rfl rfl st68 sz68) (res1_tmp rfl)) ?_
  rfl
theorem valueS_spec (s : ByteArray) (p d q : Nat) (hs : s.size ≤ 1000000) (h1 : isB s p 91 = false) (h2 : isB s p 123 = false) (h3 : isB s p 34 = true) (t : ByteArray) (hst : ∀ H, ACall Tryz.prog 108 [.agg (rdA s p d)] H (IsR H (.tup [.agg (rdA s q d), .v (.string t)]))) (H : Hp) : ACall Tryz.prog 71 [.agg (rdA s p d)] H (IsR H (.tup [.agg (rdA s q d), .agg (encV (strV t))])) := by
  have hi : ∀ c H, ACall Tryz.prog 106 [.agg (rdA s p d), .v (.int .u8 c)] H (IsR H (.v (.bool (isB s p c)))) := fun c H => is_spec s p d c hs H
  refine UCall (n := 81) (H0 := H) (objs := []) Tryz.func71 (by kernel_rfl) rfl (by rw [Tryz.ntmps71]; rfl) .nil ?_
  refine S.sq (S.rg ?_)
  refine S.dd (D.box rfl rfl rfl (fun p1 => ?_))
  refine S.dd (D.al z68 rfl rfl rfl (fun p2 => ?_))
  refine S.dd (D.al z26 rfl rfl rfl (fun p3 => ?_))
  refine US.nil (UQ.then (S.sq (S.sq (S.rg ?_))))
  refine S.qu (Z.fa f68_2 rfl) ?_
  refine S.qu (Z.ldc 2 ty3 rfl rfl rfl) ?_
  refine S.qu (Z.bi rfl rfl rfl) ?_
  refine US.nil (UQ.then ?_)
  refine S.cF rfl (bne_f (by omega)) ?_
  refine UW.skip (UQ.then (S.sq (S.sq (S.rg ?_))))
  refine S.qu (Z.ldw 2 ty68 rfl rfl rfl) ?_
  refine S.qu (Z.tF (Z.call rfl rfl (fun H => hi 91 H)) h1) ?_
  refine S.qu (Z.mv rfl) ?_
  refine S.qu (Z.on (Z.ldw 2 ty68 rfl rfl rfl)) ?_
  refine S.qu (Z.on (Z.tF (Z.call rfl rfl (fun H => hi 123 H)) h2)) ?_
  refine S.qu (Z.pick rfl rfl) ?_
  refine US.nil (UQ.then ?_)
  refine S.cF rfl rfl ?_
  refine UW.skip (UQ.then (S.sq (S.sq (S.rg ?_))))
  refine S.qu (Z.ldw 2 ty68 rfl rfl rfl) ?_
  refine S.qu (Z.tT (Z.call rfl rfl (fun H => hi 34 H)) h3) ?_
  refine US.nil (UQ.then ?_)
  refine S.cT rfl rfl ?_
  refine S.sq (S.rg ?_)
  refine S.qu (Z.ldw 2 ty68 rfl rfl rfl) ?_
  refine S.qu (Z.call rfl rfl (fun H => hst H)) ?_
  refine S.qu (Z.mv rfl) ?_
  refine S.qu (Z.ex rfl rfl) ?_
  refine S.qu (Z.ex rfl rfl) ?_
  refine S.dd (D.al z68 rfl rfl rfl (fun p7 => ?_))
  refine S.s (D.st 0 ty68 rfl rfl rfl rfl rfl rfl rfl rfl (fun _ => ?_))
  refine S.qu (Z.as rfl) ?_
  refine US.nil (UQ.then (S.sq ?_))
  refine' UW.draw' (by kernel_rfl) [0, 0, 2, 7, 15] [some 55, some 56, some 57, none, none] [some (55, _), some (56, _), some (57, _), none, none] [3, 4] [0] rfl (by decide) (by decide) (QAll.held (by decide) rfl rfl ?q1x0_0 (QAll.free (by decide) rfl rfl ?q1x0_1 (QAll.free (by decide) rfl rfl ?q1x0_2 (QAll.skip (QAll.skip QAll.nil))))) ?q1x0_k
  case q1x0_0 => exact Z.ldw 0 ty68 rfl rfl rfl
  case q1x0_1 => (intro _; exact Z.mv rfl)
  case q1x0_2 => (intro _; exact Z.call rfl rfl (fun H => strR_spec t H))
  refine CH.cons0 rfl rfl ?_
  refine D.st 2 ty68 rfl rfl rfl rfl rfl rfl rfl rfl (fun _ => ?_)
  refine CH.cons0 rfl rfl ?_
  refine D.st 1 ty26 rfl rfl rfl rfl rfl rfl rfl rfl (fun _ => ?_)
  refine CH.nil ?_
  simp only [app, finL]
  refine UQ.then (UW.ret (UQ.passR ?_))
  refine S.rtR (fun hd => res_two rfl (res1_cell (k := 2) hd rfl rfl st68 sz68) (res1_cell (k := 1) hd rfl rfl st26 sz26)) ?_
  rfl
theorem valueN_spec (s : ByteArray) (p d q : Nat) (hs : s.size ≤ 1000000) (h1 : isB s p 91 = false) (h2 : isB s p 123 = false) (h3 : isB s p 34 = false) (h4 : isB s p 45 = false) (n : Int) (hdg : ∀ H, ACall Tryz.prog 109 [.agg (rdA s p d), .v (.int .i64 (p : Int))] H (IsR H (.v (.int .i64 1)))) (hnu : ∀ H, ACall Tryz.prog 110 [.agg (rdA s p d)] H (IsR H (.tup [.agg (rdA s q d), .agg (encV (numV n))]))) (H : Hp) : ACall Tryz.prog 71 [.agg (rdA s p d)] H (IsR H (.tup [.agg (rdA s q d), .agg (encV (numV n))])) := by
  have hi : ∀ c H, ACall Tryz.prog 106 [.agg (rdA s p d), .v (.int .u8 c)] H (IsR H (.v (.bool (isB s p c)))) := fun c H => is_spec s p d c hs H
  refine UCall (n := 81) (H0 := H) (objs := []) Tryz.func71 (by kernel_rfl) rfl (by rw [Tryz.ntmps71]; rfl) .nil ?_
  refine S.sq (S.rg ?_)
  refine S.dd (D.box rfl rfl rfl (fun p1 => ?_))
  refine S.dd (D.al z68 rfl rfl rfl (fun p2 => ?_))
  refine S.dd (D.al z26 rfl rfl rfl (fun p3 => ?_))
  refine US.nil (UQ.then (S.sq (S.sq (S.rg ?_))))
  refine S.qu (Z.fa f68_2 rfl) ?_
  refine S.qu (Z.ldc 2 ty3 rfl rfl rfl) ?_
  refine S.qu (Z.bi rfl rfl rfl) ?_
  refine US.nil (UQ.then ?_)
  refine S.cF rfl (bne_f (by omega)) ?_
  refine UW.skip (UQ.then (S.sq (S.sq (S.rg ?_))))
  refine S.qu (Z.ldw 2 ty68 rfl rfl rfl) ?_
  refine S.qu (Z.tF (Z.call rfl rfl (fun H => hi 91 H)) h1) ?_
  refine S.qu (Z.mv rfl) ?_
  refine S.qu (Z.on (Z.ldw 2 ty68 rfl rfl rfl)) ?_
  refine S.qu (Z.on (Z.tF (Z.call rfl rfl (fun H => hi 123 H)) h2)) ?_
  refine S.qu (Z.pick rfl rfl) ?_
  refine US.nil (UQ.then ?_)
  refine S.cF rfl rfl ?_
  refine UW.skip (UQ.then (S.sq (S.sq (S.rg ?_))))
  refine S.qu (Z.ldw 2 ty68 rfl rfl rfl) ?_
  refine S.qu (Z.tF (Z.call rfl rfl (fun H => hi 34 H)) h3) ?_
  refine US.nil (UQ.then ?_)
  refine S.cF rfl rfl ?_
  refine UW.skip (UQ.then (S.sq (S.sq (S.rg ?_))))
  refine S.qu (Z.ldw 2 ty68 rfl rfl rfl) ?_
  refine S.qu (Z.tF (Z.call rfl rfl (fun H => hi 45 H)) h4) ?_
  refine S.qu (Z.mv rfl) ?_
  refine S.qu (Z.on (Z.ldw 2 ty68 rfl rfl rfl)) ?_
  refine S.qu (Z.on (Z.fa f68_1 rfl)) ?_
  refine S.qu (Z.on (Z.ldc 2 ty3 rfl rfl rfl)) ?_
  refine S.qu (Z.on (Z.call rfl rfl (fun H => hdg H))) ?_
  refine S.qu (Z.on (Z.bi rfl rfl rfl)) ?_
  refine S.qu (Z.pick rfl rfl) ?_
  refine US.nil (UQ.then ?_)
  refine S.cT rfl (decide_eq_true (by omega)) ?_
  refine S.sq (S.rg ?_)
  refine S.qu (Z.ldw 2 ty68 rfl rfl rfl) ?_
  refine S.qu (Z.call rfl rfl (fun H => hnu H)) ?_
  refine S.qu (Z.mv rfl) ?_
  refine S.qu (Z.ex rfl rfl) ?_
  refine S.qu (Z.ex rfl rfl) ?_
  refine S.dd (D.al z68 rfl rfl rfl (fun p9 => ?_))
  refine S.dd (D.al z26 rfl rfl rfl (fun p10 => ?_))
  refine S.s (D.st 1 ty68 rfl rfl rfl rfl rfl rfl rfl rfl (fun _ => ?_))
  refine S.s (D.st 0 ty26 rfl rfl rfl rfl rfl rfl rfl rfl (fun _ => ?_))
  refine US.nil (UQ.then (S.sq ?_))
  refine' UW.drawk (by kernel_rfl) [0] [0, 0, 1, 7] [some 72, some 73, none, none] [some (72, _), some (73, _), none, none] [2, 3] [0] rfl (by decide) (by decide) (QAll.held (by decide) rfl rfl ?q2x0_0 (QAll.kept (by decide) rfl rfl ?q2x0_1 (QAll.skip (QAll.skip QAll.nil)))) ?q2x0_k
  case q2x0_0 => exact Z.ldw 1 ty68 rfl rfl rfl
  case q2x0_1 => (intro _ hK; exact Z.kw 0 hK ty26 rfl rfl rfl)
  refine CH.cons0 rfl rfl ?_ (.c 0 rfl .n)
  refine D.st 3 ty68 rfl rfl rfl rfl rfl rfl rfl rfl (fun _ => ?_)
  refine CH.cons0 rfl rfl ?_ (.c 0 rfl .n)
  refine D.st 2 ty26 rfl rfl rfl rfl rfl rfl rfl rfl (fun _ => ?_)
  refine CH.nil ?_ (.c 0 rfl .n)
  simp only [app, finL]
  refine UQ.then (UW.ret (UQ.passR ?_))
  refine S.rtR (fun hd => res_two rfl (res1_cell (k := 3) hd rfl rfl st68 sz68) (res1_cell (k := 2) hd rfl rfl st26 sz26)) ?_
  rfl
theorem valueO_spec (s : ByteArray) (p d q : Nat) (hs : s.size ≤ 1000000) (hd : d < 32) (h1 : isB s p 91 = false) (h2 : isB s p 123 = true) (v : V) (hma : ∀ H, ACall Tryz.prog 107 [.agg (rdA s p (d + 1)), .v (.int .u8 125)] H (IsR H (.tup [.agg (rdA s q (d + 1)), .agg (encV v)]))) (H : Hp) : ACall Tryz.prog 71 [.agg (rdA s p d)] H (IsR H (.tup [.agg (rdA s q d), .agg (encV v)])) := by
  have hi : ∀ c d H, ACall Tryz.prog 106 [.agg (rdA s p d), .v (.int .u8 c)] H (IsR H (.v (.bool (isB s p c)))) := fun c d H => is_spec s p d c hs H
  refine UCall (n := 81) (H0 := H) (objs := []) Tryz.func71 (by kernel_rfl) rfl (by rw [Tryz.ntmps71]; rfl) .nil ?_
  refine S.sq (S.rg ?_)
  refine S.dd (D.box rfl rfl rfl (fun p1 => ?_))
  refine S.dd (D.al z68 rfl rfl rfl (fun p2 => ?_))
  refine S.dd (D.al z26 rfl rfl rfl (fun p3 => ?_))
  refine US.nil (UQ.then (S.sq (S.sq (S.rg ?_))))
  refine S.qu (Z.fa f68_2 rfl) ?_
  refine S.qu (Z.ldc 2 ty3 rfl rfl rfl) ?_
  refine S.qu (Z.bi rfl rfl rfl) ?_
  refine US.nil (UQ.then ?_)
  refine S.cF rfl (bne_f (by omega)) ?_
  refine UW.skip (UQ.then (S.sq (S.sq (S.rg ?_))))
  refine S.qu (Z.ldw 2 ty68 rfl rfl rfl) ?_
  refine S.qu (Z.tF (Z.call rfl rfl (fun H => hi 91 d H)) h1) ?_
  refine S.qu (Z.mv rfl) ?_
  refine S.qu (Z.on (Z.ldw 2 ty68 rfl rfl rfl)) ?_
  refine S.qu (Z.on (Z.tT (Z.call rfl rfl (fun H => hi 123 d H)) h2)) ?_
  refine S.qu (Z.pick rfl rfl) ?_
  refine US.nil (UQ.then ?_)
  refine S.cT rfl rfl ?_
  refine S.sq (S.sq (S.rg ?_))
  refine S.qu (Z.fa f68_3 rfl) ?_
  refine S.qu (Z.ldc 2 ty3 rfl rfl rfl) ?_
  refine S.qu (Z.bi rfl rfl rfl) ?_
  refine US.nil (UQ.then ?_)
  refine S.cF rfl (decide_eq_false (by omega)) ?_
  refine UW.skip (UQ.then (S.sq (S.rg ?_)))
  refine S.qu (Z.fa f68_3 rfl) ?_
  refine S.qu (Z.ldc 2 ty3 rfl rfl rfl) ?_
  refine S.qu (Z.add (r := ((d + 1 : Nat) : Int)) rfl rfl (IntWalk.i64_in _ (by omega))) ?_
  refine S.qu (Z.fa f68_3 rfl) ?_
  refine S.s (D.st 2 ty3 rfl rfl rfl rfl rfl rfl rfl rfl (fun _ => ?_))
  refine US.nil (UQ.then (S.sq (S.rg ?_)))
  refine S.qu (Z.as rfl) ?_
  refine US.nil (UQ.then (S.sq (S.sq (S.rg ?_))))
  refine S.qu (Z.ldw 2 ty68 rfl rfl rfl) ?_
  refine S.qu (Z.tT (Z.call rfl rfl (fun H => hi 123 (d + 1) H)) h2) ?_
  refine US.nil (UQ.then ?_)
  refine S.cT rfl rfl ?_
  refine S.rg ?_
  refine S.qu (Z.as rfl) ?_
  refine US.nil (UQ.then (S.sq (S.rg ?_)))
  refine S.qu (Z.ldw 2 ty68 rfl rfl rfl) ?_
  refine S.qu (Z.mv rfl) ?_
  refine S.qu (Z.call rfl rfl (fun H => hma H)) ?_
  refine S.qu (Z.mv rfl) ?_
  refine S.qu (Z.ex rfl rfl) ?_
  refine S.qu (Z.ex rfl rfl) ?_
  refine S.dd (D.al z68 rfl rfl rfl (fun p5 => ?_))
  refine S.dd (D.al z26 rfl rfl rfl (fun p6 => ?_))
  refine S.s (D.st 1 ty68 rfl rfl rfl rfl rfl rfl rfl rfl (fun _ => ?_))
  refine S.s (D.stw 0 ty26 rfl rfl rfl rfl (by exact encV_cell _) (encV_len _) rfl rfl (fun _ => ?_))
  refine US.nil (UQ.then (S.sq (S.rg ?_)))
  refine S.qu (Z.fa f68_3 rfl) ?_
  refine S.qu (Z.ldc 1 ty3 rfl rfl rfl) ?_
  refine S.qu (Z.sub (r := (d : Int)) rfl rfl (by rw [IntWalk.i64_in _ (by omega)]; omega)) ?_
  refine S.qu (Z.fa f68_3 rfl) ?_
  refine S.s (D.st 1 ty3 rfl rfl rfl rfl rfl rfl rfl rfl (fun _ => ?_))
  refine US.nil (UQ.then (S.sq ?_))
  refine' UW.drawk (by kernel_rfl) [0] [0, 0, 1, 7] [some 46, some 47, none, none] [some (46, _), some (47, _), none, none] [2, 3] [0] rfl (by decide) (by decide) (QAll.held (by decide) rfl rfl ?q3x0_0 (QAll.kept (by decide) rfl rfl ?q3x0_1 (QAll.skip (QAll.skip QAll.nil)))) ?q3x0_k
  case q3x0_0 => exact Z.ldw 1 ty68 rfl rfl rfl
  case q3x0_1 => (intro _ hK; exact Z.kw 0 hK ty26 rfl rfl (encV_len _))
  refine CH.cons0 rfl rfl ?_ (.c 0 rfl .n)
  refine D.st 3 ty68 rfl rfl rfl rfl rfl rfl rfl rfl (fun _ => ?_)
  refine CH.cons0 rfl rfl ?_ (.c 0 rfl .n)
  refine D.stw 2 ty26 rfl rfl rfl rfl (by exact encV_cell _) (encV_len _) rfl rfl (fun _ => ?_)
  refine CH.nil ?_ (.c 0 rfl .n)
  simp only [app, finL]
  refine UQ.then (UW.ret (UQ.passR ?_))
  refine S.rtR (fun hd => res_two rfl (res1_cell (k := 3) hd rfl rfl st68 sz68) (res1_cell (k := 2) hd rfl rfl st26 (by rw [encV_len]; exact sz26))) ?_
  rfl
theorem pair_spec (s : ByteArray) (p d q q2 : Nat) (hs : s.size ≤ 1000000) (hq : q ≤ 1000000) (v u : V) (key : ByteArray) (hv : Fits v) (hks : ∀ k ∈ v.ks, k.size ≤ 4000000) (hno : (getV v key).2 = false)
    (hst : ∀ H, ACall Tryz.prog 108 [.agg (rdA s p d)] H (IsR H (.tup [.agg (rdA s q d), .v (.string key)])))
    (hb1 : ∀ H, ACall Tryz.prog 70 [.agg (rdA s q d)] H (IsR H (.agg (rdA s q d)))) (hc : isB s q 58 = true)
    (hb2 : ∀ H, ACall Tryz.prog 70 [.agg (rdA s (q + 1) d)] H (IsR H (.agg (rdA s (q + 1) d))))
    (hval : ∀ H, ACall Tryz.prog 71 [.agg (rdA s (q + 1) d)] H (IsR H (.tup [.agg (rdA s q2 d), .agg (encV u)]))) (H : Hp) : ACall Tryz.prog 131 [.agg (rdA s p d), .agg (encV v)] H (IsR H (.tup [.agg (rdA s q2 d), .agg (encV (withV v key u))])) := by
  have hg : ∀ H, ACall Tryz.prog 22 [.agg (encV v), .v (.string key)] H (IsR H (.tup [.agg (encV (getV v key).1), .v (.bool false)])) := fun H => hno ▸ getR_spec v hv key H
  have hw : ∀ H, ACall Tryz.prog 13 [.agg (encV v), .v (.string key), .agg (encV u)] H (IsR H (.agg (encV (withV v key u)))) := fun H => withR_spec v hv hks key u H
  generalize (getV v key).1 = g at *
  generalize withV v key u = w at *
  refine UCall (n := 55) (H0 := H) (objs := []) Tryz.func131 (by kernel_rfl) rfl (by rw [Tryz.ntmps131]; rfl) .nil ?_
  focus
    refine S.sq (S.rg ?_)
    refine S.dd (D.box rfl rfl rfl (fun p2 => ?_))
    refine S.dd (D.box rfl rfl (by exact encV_cell _) (fun p3 => ?_))
    refine S.dd (D.al z68 rfl rfl rfl (fun p4 => ?_))
    refine S.dd (D.al z26 rfl rfl rfl (fun p5 => ?_))
    refine US.nil (UQ.then (S.sq (S.rg ?_)))
    refine S.qu (Z.fa f68_1 rfl) ?_
    refine S.qu (Z.ldc 3 ty3 rfl rfl rfl) ?_
    refine S.qu (Z.as rfl) ?_
    refine US.nil (UQ.then (S.sq (S.rg ?_)))
    refine S.qu (Z.ldw 3 ty68 rfl rfl rfl) ?_
    refine S.qu (Z.call rfl rfl (fun H => hst H)) ?_
    refine S.qu (Z.mv rfl) ?_
    refine S.qu (Z.ex rfl rfl) ?_
    refine S.qu (Z.ex rfl rfl) ?_
    refine S.dd (D.al z68 rfl rfl rfl (fun p7 => ?_))
    refine S.s (D.st 0 ty68 rfl rfl rfl rfl rfl rfl rfl rfl (fun _ => ?_))
    refine S.qu (Z.as rfl) ?_
    refine US.nil (UQ.then (S.sq (S.rg ?_)))
    refine S.qu (Z.ldw 3 ty26 rfl rfl (encV_len _)) ?_
    refine S.qu (Z.mv rfl) ?_
    refine S.qu (Z.call rfl rfl (fun H => hg H)) ?_
    refine S.qu (Z.mv rfl) ?_
    refine S.qu (Z.ex rfl rfl) ?_
    refine S.qu (Z.ex rfl rfl) ?_
    refine S.dd (D.al z26 rfl rfl rfl (fun p9 => ?_))
    refine S.s (D.stw 0 ty26 rfl rfl rfl rfl (by exact encV_cell _) (encV_len _) rfl rfl (fun _ => ?_))
    refine S.qu (Z.as rfl) ?_
    refine US.nil (UQ.then (S.sq (S.sq (S.rg ?_))))
    refine S.qu (Z.fa f68_2 rfl) ?_
    refine S.qu (Z.ldc 1 ty3 rfl rfl rfl) ?_
    refine S.qu (Z.bi rfl rfl rfl) ?_
    refine S.qu (Z.mv rfl) ?_
    refine S.tE 29 (fun hc29 => ?_) (fun hc29 => ?_)
    rotate_left
    omega
    refine S.qu (Z.on (Z.mv rfl)) ?_
    refine S.qu (Z.pick rfl rfl) ?_
    refine US.nil (UQ.then ?_)
    refine S.cF rfl rfl ?_
    refine UW.skip (UQ.then (S.sq (S.rg ?_)))
    refine S.qu (Z.ldw 1 ty68 rfl rfl rfl) ?_
    refine S.qu (Z.call rfl rfl (fun H => hb1 H)) ?_
    refine S.qu (Z.call rfl rfl (fun H => need_spec s q d 58 hs hq hc H)) ?_
    refine S.qu (Z.call rfl rfl (fun H => hb2 H)) ?_
    refine S.qu (Z.call rfl rfl (fun H => hval H)) ?_
    refine S.qu (Z.mv rfl) ?_
    refine S.qu (Z.ex rfl rfl) ?_
    refine S.qu (Z.ex rfl rfl) ?_
    refine S.dd (D.al z68 rfl rfl rfl (fun p11 => ?_))
    refine S.dd (D.al z26 rfl rfl rfl (fun p12 => ?_))
    refine S.s (D.st 1 ty68 rfl rfl rfl rfl rfl rfl rfl rfl (fun _ => ?_))
    refine S.s (D.stw 0 ty26 rfl rfl rfl rfl (by exact encV_cell _) (encV_len _) rfl rfl (fun _ => ?_))
    refine US.nil (UQ.then (S.sq (S.sq (S.rg ?_))))
    refine S.qu (Z.fa f68_2 rfl) ?_
    refine S.qu (Z.ldc 1 ty3 rfl rfl rfl) ?_
    refine S.qu (Z.bi rfl rfl rfl) ?_
    refine US.nil (UQ.then ?_)
    refine S.cF rfl (bne_f (by omega)) ?_
    refine UW.skip (UQ.then (S.sq ?_))
    refine' UW.draw' (by kernel_rfl) [0, 0, 0, 0, 14, 31, 63] [some 50, some 51, some 52, some 53, some 54, none, none] [some (50, _), some (51, _), some (52, _), some (53, _), some (54, _), none, none] [5, 6] [0, 1, 3] rfl (by decide) (by decide) (QAll.held (by decide) rfl rfl ?q4x0_0 (QAll.held (by decide) rfl rfl ?q4x0_1 (QAll.free (by decide) rfl rfl ?q4x0_2 (QAll.held (by decide) rfl rfl ?q4x0_3 (QAll.free (by decide) rfl rfl ?q4x0_4 (QAll.skip (QAll.skip QAll.nil))))))) ?q4x0_k
    case q4x0_0 => exact Z.ldw 1 ty68 rfl rfl rfl
    case q4x0_1 => exact Z.ldw 6 ty26 rfl rfl (encV_len _)
    case q4x0_2 => (intro _; exact Z.mv rfl)
    case q4x0_3 => exact Z.ldw 0 ty26 rfl rfl (encV_len _)
    case q4x0_4 => (intro _; exact Z.call rfl rfl (fun H => hw H))
    refine CH.cons0 rfl rfl ?_
    refine D.st 5 ty68 rfl rfl rfl rfl rfl rfl rfl rfl (fun _ => ?_)
    refine CH.cons0 rfl rfl ?_
    refine D.stw 4 ty26 rfl rfl rfl rfl (by exact encV_cell _) (encV_len _) rfl rfl (fun _ => ?_)
    refine CH.nil ?_
    simp only [app, finL]
    refine UQ.then (UW.ret ?_)
    refine S.rtR (fun hd => res_two rfl (res1_cell (k := 5) hd rfl rfl st68 sz68) (res1_cell (k := 4) hd rfl rfl st26 (by rw [encV_len]; exact sz26))) ?_
    rfl
theorem many_spec (s : ByteArray) (p d m : Nat) (hs : s.size ≤ 1000000) (hp : p ≤ 1000000) (hm : 0 < m) (q e : Nat → Nat) (vv : Nat → V) (he : ∀ i, i < m → e i ≤ 1000000)
    (hq0 : q 0 = p + 1) (hv0 : vv 0 = .mk 5 0 ⟨#[]⟩ [] [])
    (hb0 : ∀ H, ACall Tryz.prog 70 [.agg (rdA s (p + 1) d)] H (IsR H (.agg (rdA s (p + 1) d)))) (hn0 : isB s (p + 1) 125 = false)
    (hpair : ∀ i, i < m → ∀ H, ACall Tryz.prog 131 [.agg (rdA s (q i) d), .agg (encV (vv i))] H (IsR H (.tup [.agg (rdA s (e i) d), .agg (encV (vv (i + 1)))])))
    (hbe : ∀ i, i < m → ∀ H, ACall Tryz.prog 70 [.agg (rdA s (e i) d)] H (IsR H (.agg (rdA s (e i) d))))
    (hmid : ∀ i, i + 1 < m → isB s (e i) 125 = false ∧ isB s (e i) 44 = true ∧ q (i + 1) = e i + 1)
    (hbm : ∀ i, i + 1 < m → ∀ H, ACall Tryz.prog 70 [.agg (rdA s (e i + 1) d)] H (IsR H (.agg (rdA s (e i + 1) d))))
    (hend : isB s (e (m - 1)) 125 = true) (H : Hp) : ACall Tryz.prog 107 [.agg (rdA s p d), .v (.int .u8 125)] H (IsR H (.tup [.agg (rdA s (e (m - 1) + 1) d), .agg (encV (vv m))])) := by
  have hi : ∀ p c H, ACall Tryz.prog 106 [.agg (rdA s p d), .v (.int .u8 c)] H (IsR H (.v (.bool (isB s p c)))) := fun p c H => is_spec s p d c hs H
  refine UCall (n := 71) (H0 := H) (objs := []) Tryz.func107 (by kernel_rfl) rfl (by rw [Tryz.ntmps107]; rfl) .nil ?_
  refine S.sq (S.rg ?_)
  refine S.dd (D.box rfl rfl rfl (fun p2 => ?_))
  refine S.dd (D.al z68 rfl rfl rfl (fun p4 => ?_))
  refine S.dd (D.al z26 rfl rfl rfl (fun p5 => ?_))
  refine US.nil (UQ.then (S.sq (S.rg ?_)))
  refine S.qu (Z.bd [0] bt26 rfl rfl rfl rfl rfl rfl) ?_
  refine S.dd (D.al z26 rfl rfl rfl (fun p6 => ?_))
  refine S.s (D.st 0 ty26 rfl rfl rfl rfl rfl rfl rfl rfl (fun _ => ?_))
  refine US.nil (UQ.then (S.sq (S.sq (S.rg ?_))))
  refine S.qu (Z.mv rfl) ?_
  refine S.qu (Z.bi rfl rfl rfl) ?_
  refine US.nil (UQ.then ?_)
  refine S.cT rfl (beq_t (by omega)) ?_
  refine S.rg ?_
  refine S.qu (Z.fa f26_0 rfl) ?_
  refine S.s (D.st 0 ty3 rfl rfl rfl rfl rfl rfl rfl rfl (fun _ => ?_))
  refine US.nil (UQ.then (S.sq (S.rg ?_)))
  refine S.qu (Z.fa f68_1 rfl) ?_
  refine S.qu (Z.ldc 3 ty3 rfl rfl rfl) ?_
  refine S.qu (Z.add (r := ((p + 1 : Nat) : Int)) rfl rfl (IntWalk.i64_in _ (by omega))) ?_
  refine S.qu (Z.fa f68_1 rfl) ?_
  refine S.s (D.st 3 ty3 rfl rfl rfl rfl rfl rfl rfl rfl (fun _ => ?_))
  refine US.nil (UQ.then (S.sq (S.rg ?_)))
  refine S.qu (Z.ldw 3 ty68 rfl rfl rfl) ?_
  refine S.qu (Z.call rfl rfl (fun H => hb0 H)) ?_
  refine S.s (D.st 3 ty68 rfl rfl rfl rfl rfl rfl rfl rfl (fun _ => ?_))
  refine US.nil (UQ.then (S.sq (S.sq (S.rg ?_))))
  refine S.qu (Z.ldw 3 ty68 rfl rfl rfl) ?_
  refine S.qu (Z.mv rfl) ?_
  refine S.qu (Z.tF (Z.call rfl rfl (fun H => hi (p + 1) 125 H)) hn0) ?_
  refine US.nil (UQ.then ?_)
  refine S.cF rfl rfl ?_
  refine UW.skip (UQ.then (S.sq (UW.block ?_)))
  refine S.loop (fun j : Nat × V × Nat => [(6, .ptr p6 0), (5, .ptr p5 0), (4, .ptr p4 0), (2, .ptr p2 0), (1, .v (.int .u8 125))]) (fun j => [(p6, .box 26 (encV j.2.1)), (p5, .box 26 (encV zeroV)), (p4, .box 68 [.v (.string ⟨#[]⟩), .v (.int .i64 0), .v (.int .i64 0), .v (.int .i64 0)]), (p2, .box 68 (rdA s j.2.2 d))]) (fun j => j.1 < m ∧ j.2.1 = vv j.1 ∧ j.2.2 = q j.1) (fun j => m - j.1) (0, .mk 5 0 ⟨#[]⟩ [] [], p + 1) ⟨hm, hv0.symm, hq0.symm⟩ ⟨rfl, rfl, rfl, rfl, rfl, trivial⟩ (.refl _) ?_
  rintro ⟨j, y, a⟩ ⟨hj, hy, ha⟩
  dsimp only at hj hy ha ⊢
  subst ha
  have hpj := hpair j hj
  have hbj := hbe j hj
  have hej := he j hj
  rw [← hy] at hpj
  by_cases hl : j + 1 < m
  · obtain ⟨g1, g2, g3⟩ := hmid j hl
    have hbm' := hbm j hl
    generalize hyy : vv (j + 1) = y1 at *
    generalize hee : e j = ej at *
    generalize q j = qj at *
    refine S.sq (S.sq (S.rg ?_))
    refine S.qu (Z.fa f68_2 rfl) ?_
    refine S.qu (Z.ldc 3 ty3 rfl rfl rfl) ?_
    refine S.qu (Z.bi rfl rfl rfl) ?_
    refine US.nil (UQ.then ?_)
    refine S.cT rfl (beq_t (by omega)) ?_
    refine UW.skip (UQ.then (UW.block (S.sq (S.sq (S.rg ?_)))))
    refine S.qu (Z.mv rfl) ?_
    refine S.qu (Z.bi rfl rfl rfl) ?_
    refine US.nil (UQ.then ?_)
    refine S.cT rfl (beq_t (by omega)) ?_
    refine S.sq (S.rg ?_)
    refine S.qu (Z.ldw 3 ty68 rfl rfl rfl) ?_
    refine S.qu (Z.ldw 0 ty26 rfl rfl (encV_len _)) ?_
    refine S.qu (Z.call rfl rfl (fun H => hpj H)) ?_
    refine S.qu (Z.mv rfl) ?_
    refine S.qu (Z.ex rfl rfl) ?_
    refine S.qu (Z.ex rfl rfl) ?_
    refine S.dd (D.al z68 rfl rfl rfl (fun p7 => ?_))
    refine S.dd (D.al z26 rfl rfl rfl (fun p8 => ?_))
    refine S.s (D.st 1 ty68 rfl rfl rfl rfl rfl rfl rfl rfl (fun _ => ?_))
    refine S.s (D.stw 0 ty26 rfl rfl rfl rfl (by exact encV_cell _) (encV_len _) rfl rfl (fun _ => ?_))
    refine US.nil (UQ.then (S.sq (S.rg ?_)))
    refine S.qu (Z.ldw 1 ty68 rfl rfl rfl) ?_
    refine S.s (D.st 5 ty68 rfl rfl rfl rfl rfl rfl rfl rfl (fun _ => ?_))
    refine US.nil (UQ.then (S.rg ?_))
    refine S.qu (Z.ldw 0 ty26 rfl rfl (encV_len _)) ?_
    refine S.s (D.stw 2 ty26 rfl rfl rfl rfl (by exact encV_cell _) (encV_len _) (encV_len _) rfl (fun _ => ?_))
    refine US.nil (UQ.then (S.sq (S.rg ?_)))
    refine S.qu (Z.ldw 5 ty68 rfl rfl rfl) ?_
    refine S.qu (Z.call rfl rfl (fun H => hbj H)) ?_
    refine S.s (D.st 5 ty68 rfl rfl rfl rfl rfl rfl rfl rfl (fun _ => ?_))
    refine US.nil (UQ.then (S.sq (S.sq (S.rg ?_))))
    refine S.qu (Z.ldw 5 ty68 rfl rfl rfl) ?_
    refine S.qu (Z.mv rfl) ?_
    refine S.qu (Z.tF (Z.call rfl rfl (fun H => hi ej 125 H)) g1) ?_
    refine US.nil (UQ.then ?_)
    refine S.cF rfl rfl ?_
    refine UW.skip (UQ.then (S.rg ?_))
    refine S.qu (Z.ldw 5 ty68 rfl rfl rfl) ?_
    refine S.qu (Z.call rfl rfl (fun H => need_spec s ej d 44 hs hej g2 H)) ?_
    refine S.qu (Z.call rfl rfl (fun H => hbm' H)) ?_
    refine S.s (D.st 5 ty68 rfl rfl rfl rfl rfl rfl rfl rfl (fun _ => ?_))
    refine US.nil (UQ.blockN ?_)
    refine S.back (j + 1, y1, ej + 1) ⟨rfl, rfl, rfl, rfl, rfl, trivial⟩ (by repeat (first | exact List.Sublist.refl _ | exact List.nil_sublist _ | refine .cons_cons _ ?_ | refine .cons _ ?_)) ?_ (by omega)
    exact ⟨hl, hyy.symm, g3.symm⟩
  · have hjm : m = j + 1 := by omega
    subst hjm
    rw [show j + 1 - 1 = j from by omega] at hend ⊢
    clear hpair hbe hmid hbm he
    generalize vv (j + 1) = y1 at *
    generalize e j = ej at *
    generalize q j = qj at *
    refine S.sq (S.sq (S.rg ?_))
    refine S.qu (Z.fa f68_2 rfl) ?_
    refine S.qu (Z.ldc 3 ty3 rfl rfl rfl) ?_
    refine S.qu (Z.bi rfl rfl rfl) ?_
    refine US.nil (UQ.then ?_)
    refine S.cT rfl (beq_t (by omega)) ?_
    refine UW.skip (UQ.then (UW.block (S.sq (S.sq (S.rg ?_)))))
    refine S.qu (Z.mv rfl) ?_
    refine S.qu (Z.bi rfl rfl rfl) ?_
    refine US.nil (UQ.then ?_)
    refine S.cT rfl (beq_t (by omega)) ?_
    refine S.sq (S.rg ?_)
    refine S.qu (Z.ldw 3 ty68 rfl rfl rfl) ?_
    refine S.qu (Z.ldw 0 ty26 rfl rfl (encV_len _)) ?_
    refine S.qu (Z.call rfl rfl (fun H => hpj H)) ?_
    refine S.qu (Z.mv rfl) ?_
    refine S.qu (Z.ex rfl rfl) ?_
    refine S.qu (Z.ex rfl rfl) ?_
    refine S.dd (D.al z68 rfl rfl rfl (fun p7 => ?_))
    refine S.dd (D.al z26 rfl rfl rfl (fun p8 => ?_))
    refine S.s (D.st 1 ty68 rfl rfl rfl rfl rfl rfl rfl rfl (fun _ => ?_))
    refine S.s (D.stw 0 ty26 rfl rfl rfl rfl (by exact encV_cell _) (encV_len _) rfl rfl (fun _ => ?_))
    refine US.nil (UQ.then (S.sq (S.rg ?_)))
    refine S.qu (Z.ldw 1 ty68 rfl rfl rfl) ?_
    refine S.s (D.st 5 ty68 rfl rfl rfl rfl rfl rfl rfl rfl (fun _ => ?_))
    refine US.nil (UQ.then (S.rg ?_))
    refine S.qu (Z.ldw 0 ty26 rfl rfl (encV_len _)) ?_
    refine S.s (D.stw 2 ty26 rfl rfl rfl rfl (by exact encV_cell _) (encV_len _) (encV_len _) rfl (fun _ => ?_))
    refine US.nil (UQ.then (S.sq (S.rg ?_)))
    refine S.qu (Z.ldw 5 ty68 rfl rfl rfl) ?_
    refine S.qu (Z.call rfl rfl (fun H => hbj H)) ?_
    refine S.s (D.st 5 ty68 rfl rfl rfl rfl rfl rfl rfl rfl (fun _ => ?_))
    refine US.nil (UQ.then (S.sq (S.sq (S.rg ?_))))
    refine S.qu (Z.ldw 5 ty68 rfl rfl rfl) ?_
    refine S.qu (Z.mv rfl) ?_
    refine S.qu (Z.tT (Z.call rfl rfl (fun H => hi ej 125 H)) hend) ?_
    refine US.nil (UQ.then ?_)
    refine S.cT rfl rfl ?_
    refine S.sq (S.rg ?_)
    refine S.qu (Z.fa f68_1 rfl) ?_
    refine S.qu (Z.ldc 5 ty3 rfl rfl rfl) ?_
    refine S.qu (Z.add (r := ((ej + 1 : Nat) : Int)) rfl rfl (IntWalk.i64_in _ (by omega))) ?_
    refine S.qu (Z.fa f68_1 rfl) ?_
    refine S.s (D.st 5 ty3 rfl rfl rfl rfl rfl rfl rfl rfl (fun _ => ?_))
    refine US.nil (UQ.then (S.sq ?_))
    refine' UW.drawk (by kernel_rfl) [2] [0, 0, 1, 7] [some 64, some 65, none, none] [some (64, _), some (65, _), none, none] [2, 3] [0] rfl (by decide) (by decide) (QAll.held (by decide) rfl rfl ?q7x0_0 (QAll.kept (by decide) rfl rfl ?q7x0_1 (QAll.skip (QAll.skip QAll.nil)))) ?q7x0_k
    case q7x0_0 => exact Z.ldw 5 ty68 rfl rfl rfl
    case q7x0_1 => (intro _ hK; exact Z.kw 0 hK ty26 rfl rfl (encV_len _))
    refine CH.cons0 rfl rfl ?_ (.c 2 rfl .n)
    refine D.st 4 ty68 rfl rfl rfl rfl rfl rfl rfl rfl (fun _ => ?_)
    refine CH.cons0 rfl rfl ?_ (.c 2 rfl .n)
    refine D.stw 3 ty26 rfl rfl rfl rfl (by exact encV_cell _) (encV_len _) rfl rfl (fun _ => ?_)
    refine CH.nil ?_ (.c 2 rfl .n)
    simp only [app, finL]
    refine UQ.then (UW.ret (UQ.passR (UQ.blockR (UQ.passR (UQ.blockR (UQ.passR ?_))))))
    refine S.rtR (fun hd => res_two rfl (res1_cell (k := 4) hd rfl rfl st68 sz68) (res1_cell (k := 3) hd rfl rfl st26 (by rw [encV_len]; exact sz26))) ?_
    rfl
theorem parse_spec (s : ByteArray) (hs : s.size ≤ 1000) (hck : chkR s < 0) (v : V)
    (hb0 : ∀ H, ACall Tryz.prog 70 [.agg (rdA s 0 0)] H (IsR H (.agg (rdA s 0 0))))
    (hval : ∀ H, ACall Tryz.prog 71 [.agg (rdA s 0 0)] H (IsR H (.tup [.agg (rdA s s.size 0), .agg (encV v)])))
    (hb1 : ∀ H, ACall Tryz.prog 70 [.agg (rdA s s.size 0)] H (IsR H (.agg (rdA s s.size 0)))) (H : Hp) : ACall Tryz.prog 36 [.v (.string s)] H (IsR H (.tup [.agg (encV v), .v (.int .i64 0), .v (.int .i64 0)])) := by
  have hc : ∀ H, ACall Tryz.prog 58 [.v (.string s)] H (IsR H (.v (.int .i64 (chkR s)))) := fun H => checkR_spec s (by omega) H
  generalize chkR s = ck at *
  refine UCall (n := 48) (H0 := H) (objs := []) Tryz.func36 (by kernel_rfl) rfl (by rw [Tryz.ntmps36]; rfl) .nil ?_
  focus
    refine S.sq (S.rg ?_)
    refine S.dd (D.al z26 rfl rfl rfl (fun p2 => ?_))
    refine S.qu (Z.as rfl) ?_
    refine S.qu (Z.as rfl) ?_
    refine US.nil (UQ.then (S.sq (S.sq (S.rg ?_))))
    refine S.qu (Z.mv rfl) ?_
    refine S.qu (Z.lnt Tryz.underlying9 rfl) ?_
    refine S.qu (Z.bi rfl rfl rfl) ?_
    refine US.nil (UQ.then ?_)
    refine S.cF rfl (decide_eq_false (by omega)) ?_
    refine UW.skip (UQ.then (S.sq (S.rg ?_)))
    refine S.qu (Z.mv rfl) ?_
    refine S.qu (Z.call rfl rfl (fun H => hc H)) ?_
    refine S.qu (Z.as rfl) ?_
    refine US.nil (UQ.then (S.sq (S.sq (S.rg ?_))))
    refine S.qu (Z.mv rfl) ?_
    refine S.qu (Z.bi rfl rfl rfl) ?_
    refine US.nil (UQ.then ?_)
    refine S.cF rfl (decide_eq_false (by omega)) ?_
    refine UW.skip (UQ.then (S.sq (S.rg ?_)))
    refine S.qu (Z.mv rfl) ?_
    refine S.qu (Z.bd [0] bt68 rfl rfl rfl rfl rfl rfl) ?_
    refine S.qu (Z.call rfl rfl (fun H => hb0 H)) ?_
    refine S.qu (Z.call rfl rfl (fun H => hval H)) ?_
    refine S.qu (Z.mv rfl) ?_
    refine S.qu (Z.ex rfl rfl) ?_
    refine S.qu (Z.ex rfl rfl) ?_
    refine S.dd (D.al z68 rfl rfl rfl (fun p6 => ?_))
    refine S.dd (D.al z26 rfl rfl rfl (fun p7 => ?_))
    refine S.s (D.st 1 ty68 rfl rfl rfl rfl rfl rfl rfl rfl (fun _ => ?_))
    refine S.s (D.stw 0 ty26 rfl rfl rfl rfl (by exact encV_cell _) (encV_len _) rfl rfl (fun _ => ?_))
    refine US.nil (UQ.then (S.sq (S.rg ?_)))
    refine S.qu (Z.ldw 1 ty68 rfl rfl rfl) ?_
    refine S.qu (Z.call rfl rfl (fun H => hb1 H)) ?_
    refine S.s (D.st 1 ty68 rfl rfl rfl rfl rfl rfl rfl rfl (fun _ => ?_))
    refine US.nil (UQ.then (S.sq (S.sq (S.rg ?_))))
    refine S.qu (Z.fa f68_2 rfl) ?_
    refine S.qu (Z.ldc 1 ty3 rfl rfl rfl) ?_
    refine S.qu (Z.bi rfl rfl rfl) ?_
    refine S.qu (Z.mv rfl) ?_
    refine S.tE 30 (fun hc30 => ?_) (fun hc30 => ?_)
    rotate_left
    omega
    refine S.qu (Z.on (Z.fa f68_1 rfl)) ?_
    refine S.qu (Z.on (Z.ldc 1 ty3 rfl rfl rfl)) ?_
    refine S.qu (Z.on (Z.mv rfl)) ?_
    refine S.qu (Z.on (Z.lnt Tryz.underlying9 rfl)) ?_
    refine S.qu (Z.on (Z.bi rfl rfl rfl)) ?_
    refine S.qu (Z.pick rfl rfl) ?_
    refine US.nil (UQ.then ?_)
    refine S.cF rfl (decide_eq_false (by omega)) ?_
    refine UW.skip (UQ.then (S.sq (S.sq (S.rg ?_))))
    refine S.qu (Z.fa f68_2 rfl) ?_
    refine S.qu (Z.ldc 1 ty3 rfl rfl rfl) ?_
    refine S.qu (Z.bi rfl rfl rfl) ?_
    refine US.nil (UQ.then ?_)
    refine S.cF rfl (bne_f (by omega)) ?_
    refine UW.skip (UQ.then (S.sq (S.rg ?_)))
    refine S.qu (Z.ldw 0 ty26 rfl rfl (encV_len _)) ?_
    refine S.s (D.stw 2 ty26 rfl rfl rfl rfl (by exact encV_cell _) (encV_len _) rfl rfl (fun _ => ?_))
    refine S.qu (Z.as rfl) ?_
    refine S.qu (Z.as rfl) ?_
    refine US.nil (UQ.then (UW.ret ?_))
    refine S.rtR (fun hd => res_many rfl (by decide) rfl (res1s_cons (res1_cell (k := 2) hd rfl rfl st26 (by rw [encV_len]; exact sz26)) (res1s_cons (res1_tmp rfl) (res1s_cons (res1_tmp rfl) (res1s_nil))))) ?_
    rfl
end Go.Proofs.YtgmfgmbgmjbdhaaGreatDoor
