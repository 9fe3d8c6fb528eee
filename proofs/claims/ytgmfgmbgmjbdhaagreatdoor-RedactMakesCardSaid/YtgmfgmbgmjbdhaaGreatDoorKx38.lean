/- Names and hashes of events: the program's. · The law ValueCopy: what it answers. · The chapter's example. · The chapter's example holds. · How heavy values of choices are. -/
import Derived.Test.YtgmfgmbgmjbdhaaGreatDoorKx35
import Derived.Test.YtgmfgmbgmjbdhaaGreatDoorKx37
import Derived.Test.YtgmfgmbgmjbdhaaGreatDoorKx17
import Derived.Test.YtgmfgmbgmjbdhaaGreatDoorKx34
import Derived.Test.YtgmfgmbgmjbdhaaGreatDoorKx25
import Derived.Test.YtgmfgmbgmjbdhaaGreatDoorKx36
section
namespace Go.Proofs.YtgmfgmbgmjbdhaaGreatDoor
open Go Go.RowKit Go.Eng
set_option linter.unusedSimpArgs false
set_option linter.unusedVariables false
set_option maxRecDepth 100000
set_option maxHeartbeats 4000000
def hashesB : ByteArray := ⟨#[104, 97, 115, 104, 101, 115]⟩
def unsignedB : ByteArray := ⟨#[117, 110, 115, 105, 103, 110, 101, 100]⟩
def sha256B : ByteArray := ⟨#[115, 104, 97, 50, 53, 54]⟩
def bytesOf (s : ByteArray) : List Int := s.data.toList.map fun b => (b.toNat : Int)
theorem bytesOf_len (s : ByteArray) : (bytesOf s).length = s.size := by unfold bytesOf; rw [List.length_map]; rfl
theorem bytesOf_ok (s : ByteArray) : ByteL (bytesOf s) := by
  intro c hc
  obtain ⟨b, _, rfl⟩ := List.mem_map.1 hc
  have := b.toNat_lt
  omega
theorem encY_bytes (s : ByteArray) : strRows s = encY (bytesOf s) := by unfold strRows encY bytesOf; rw [List.map_map]; rfl
theorem fits_leaf0 (k n : Int) (t : ByteArray) : Fits (.mk k n t [] []) := .mk _ _ _ _ _ (Nat.zero_le _) (Nat.zero_le _) (fun x h => by cases h)
theorem strV_fits (s : ByteArray) : Fits (strV s) := fits_leaf0 _ _ _
theorem wo_fits' {x : V} (hx : Fits x) (key : ByteArray) : Fits (withoutV x key) := by
  unfold withoutV
  split
  · rename_i i hp
    cases hx with
    | mk k n t ks vs h1 h2 h3 =>
      refine .mk _ _ _ _ _ ?_ ?_ (fun y hy => ?_)
      · unfold cutAt cutV; simp [vks, vvs]; omega
      · unfold cutAt cutV; simp [vks, vvs]; omega
      · unfold cutAt cutV at hy
        rcases List.mem_append.1 hy with h | h
        · exact h3 _ (List.mem_of_mem_take (List.mem_of_mem_take h))
        · exact h3 _ (List.mem_of_mem_take (List.mem_of_mem_drop h))
  · exact hx
def bareV (x : V) : V := withoutV (withoutV x hashesB) unsignedB
def hashB (x : V) : ByteArray := textB (shaB (bytesOf (printV (bareV x))))
theorem pr_size {x : V} (h : Pr x) : (printV x).size ≤ 1000000000 := Nat.le_trans (printV_size h.num) h.wt
theorem hash_low (x : V) (hx : Fits x) (hp : Pr (bareV x)) (H : Hp) (hG : Glob H) (hN : NoIt H) : ACall Tryz.prog 17 [.agg (encV x)] H (IsR H (.v (.string (hashB x)))) := by
  have hf1 := wo_fits' hx hashesB
  have hf2 : Fits (bareV x) := wo_fits' hf1 unsignedB
  have hsz := pr_size hp
  have hbl := bytesOf_len (printV (bareV x))
  have hbo := bytesOf_ok (printV (bareV x))
  have hsl := shaB_len (bytesOf (printV (bareV x)))
  have hso := shaB_ok (bytesOf (printV (bareV x)))
  have hw1 : ∀ H, ACall Tryz.prog 41 [.agg (encV x), .v (.string hashesB)] H (IsR H (.agg (encV (withoutV x hashesB)))) := fun H => without_spec x hx hashesB H
  have hw2 : ∀ H, ACall Tryz.prog 41 [.agg (encV (withoutV x hashesB)), .v (.string unsignedB)] H (IsR H (.agg (encV (bareV x)))) := fun H => without_spec _ hf1 unsignedB H
  have hpr : ∀ H, Glob H → ACall Tryz.prog 40 [.agg (encV (bareV x))] H (IsR H (.v (.string (printV (bareV x))))) := fun H h => print_spec (bareV x) hf2 hp H h
  unfold hashB
  generalize withoutV x hashesB = w1 at *
  generalize bareV x = w2 at *
  generalize printV w2 = pt at *
  obtain ⟨k, n, t, ks, vs⟩ := x
  refine UCall (n := 12) (H0 := H) (objs := []) Tryz.func17 (by kernel_rfl) rfl (by rw [Tryz.ntmps17]; rfl) .nil <| ?_
  refine Q.rg <| S.dd <| D.box rfl rfl rfl fun p1 => Q.as rfl <| Q.nt <| Q.rg <| S.qu (Z.ldw 0 ty26 rfl rfl rfl) <| S.qu (Z.call rfl rfl (fun H => hw1 H)) <| S.qu (Z.call rfl rfl (fun H => hw2 H)) <| S.qu (Z.callg rfl rfl (fun _ hS => hpr _ (hG.mono hS))) <| Q.as rfl <| Q.nt <| Q.rg <| Q.mv rfl <| S.qu (Z.eq (u' := .sl (encY (bytesOf pt))) (Z.s2b Tryz.underlying9 Tryz.underlying22 (by rfl) rfl (by omega)) (by rw [encY_bytes])) <| ?_
  refine S.qu (Z.calld rfl rfl (fun hd => sum_spec (bytesOf pt) (by omega) hbo _ (hN.ext rfl))) <| S.qu (Z.calld rfl rfl (fun hd => sealT_spec (shaB (bytesOf pt)) (by omega) (by omega) hso _ (hN.ext rfl))) <| Q.as rfl <| Q.nt <| UW.ret <| S.rtR (fun _ => res_tmp rfl rfl) <| ?_
  rfl
theorem hash_spec (x : V) (hx : Fits x) (hp : Pr (bareV x)) (H : Hp) (hG : Glob H) : ACall Tryz.prog 17 [.agg (encV x)] H (IsR H (.v (.string (hashB x)))) :=
  ACall.lowly hG.raw (hash_low x hx hp _ hG.low (NoIt.raw hG.raw)) rfl
def sealV (h : ByteArray) : V := withV zeroV sha256B (strV h)
def sealedV (x : V) : V := withV x hashesB (sealV (hashB x))
def hashedV (x : V) : Bool := sameV (getV (getV x hashesB).1 sha256B).1 (strV (hashB x))
theorem sealV_fits (h : ByteArray) : Fits (sealV h) := by
  have hw := withV_lens zeroV sha256B (strV h)
  have e : sealV h = .mk 5 0 ⟨#[]⟩ [sha256B] [strV h] := rfl
  rw [e]
  exact .mk _ _ _ _ _ (by show 1 ≤ 1000000; decide) (by show 1 ≤ 1000000; decide) (fun y hy => by rw [List.mem_singleton.1 hy]; exact strV_fits h)
theorem sealed_spec (x : V) (hx : Fits x) (hp : Pr (bareV x)) (H : Hp) (hG : Glob H) : ACall Tryz.prog 11 [.agg (encV x)] H (IsR H (.agg (encV (sealedV x)))) := by
  have hh : ∀ H, Glob H → ACall Tryz.prog 17 [.agg (encV x)] H (IsR H (.v (.string (hashB x)))) := fun H h => hash_spec x hx hp H h
  have hw1 : ∀ H, ACall Tryz.prog 30 [.agg (encV zeroV), .v (.string sha256B), .agg (encV (strV (hashB x)))] H (IsR H (.agg (encV (sealV (hashB x))))) := fun H => with_spec zeroV fits_zero sha256B _ (strV_fits _) H
  have hw2 : ∀ H, ACall Tryz.prog 30 [.agg (encV x), .v (.string hashesB), .agg (encV (sealV (hashB x)))] H (IsR H (.agg (encV (sealedV x)))) := fun H => with_spec x hx hashesB _ (sealV_fits _) H
  generalize sealedV x = sx at *
  generalize hashB x = h at *
  generalize sealV h = sh at *
  obtain ⟨k, n, t, ks, vs⟩ := x
  refine UCall (n := 10) (H0 := H) (objs := []) Tryz.func11 (by kernel_rfl) rfl (by rw [Tryz.ntmps11]; rfl) .nil <| ?_
  refine Q.rg <| S.dd <| D.box rfl rfl rfl fun p1 => S.dd <| D.al z26 rfl rfl rfl fun p2 => Q.nt <| S.sq <| ?_
  refine' UW.draw' (by kernel_rfl) [0, 0, 0, 4, 12, 30, 63, 127] [some 3, some 4, some 5, some 6, some 7, some 8, some 9, none] [some (3, _), some (4, _), some (5, _), some (6, _), some (7, _), some (8, _), some (9, _), none] [7] [0, 2] rfl (by decide) (by decide) (QAll.held (by decide) rfl rfl ?q1x0_0 (QAll.free (by decide) rfl rfl ?q1x0_1 (QAll.held (by decide) rfl rfl ?q1x0_2 (QAll.free (by decide) rfl rfl ?q1x0_3 (QAll.free (by decide) rfl rfl ?q1x0_4 (QAll.free (by decide) rfl rfl ?q1x0_5 (QAll.free (by decide) rfl rfl ?q1x0_6 (QAll.skip QAll.nil)))))))) ?q1x0_k
  case q1x0_0 => exact Z.ldw 1 ty26 rfl rfl rfl
  case q1x0_1 => (intro _; exact Z.bd [] bt26 rfl rfl rfl rfl rfl rfl)
  case q1x0_2 => exact Z.ldw 1 ty26 rfl rfl rfl
  case q1x0_3 => (intro _; exact Z.callg rfl rfl (fun _ hS => hh _ (hG.mono hS)))
  case q1x0_4 => (intro _; exact Z.call rfl rfl (fun H => str_spec h H))
  case q1x0_5 => (intro _; exact Z.call rfl rfl (fun H => hw1 H))
  case q1x0_6 => (intro _; exact Z.call rfl rfl (fun H => hw2 H))
  refine CH.cons0 rfl rfl <| D.stw 0 ty26 rfl rfl rfl rfl (by exact encV_cell _) (encV_len _) rfl rfl fun _ => ?_
  refine CH.nil <| ?_
  simp only [app, finL]
  refine UQ.then <| UW.ret <| S.rtR (fun hd => res_cell (k := 0) hd rfl rfl rfl st26 (by rw [encV_len]; exact sz26)) <| ?_
  rfl
theorem hashed_spec (x : V) (hx : Fits x) (hp : Pr (bareV x)) (H : Hp) (hG : Glob H) : ACall Tryz.prog 16 [.agg (encV x)] H (IsR H (.v (.bool (hashedV x)))) := by
  have hf1 := get_fits hx hashesB
  have hf2 := get_fits hf1 sha256B
  have hh : ∀ H, Glob H → ACall Tryz.prog 17 [.agg (encV x)] H (IsR H (.v (.string (hashB x)))) := fun H h => hash_spec x hx hp H h
  have hg1 : ∀ H, ACall Tryz.prog 38 [.agg (encV x), .v (.string hashesB)] H (IsR H (.tup [.agg (encV (getV x hashesB).1), .v (.bool (getV x hashesB).2)])) := fun H => get_spec x hx hashesB H
  have hg2 : ∀ H, ACall Tryz.prog 38 [.agg (encV (getV x hashesB).1), .v (.string sha256B)] H (IsR H (.tup [.agg (encV (getV (getV x hashesB).1 sha256B).1), .v (.bool (getV (getV x hashesB).1 sha256B).2)])) := fun H => get_spec _ hf1 sha256B H
  have hsm : ∀ H, ACall Tryz.prog 39 [.agg (encV (getV (getV x hashesB).1 sha256B).1), .agg (encV (strV (hashB x)))] H (IsR H (.v (.bool (hashedV x)))) := fun H => same_spec _ hf2 _ H
  generalize hashedV x = b at *
  generalize hashB x = h at *
  generalize (getV (getV x hashesB).1 sha256B).2 = b2 at *
  generalize (getV (getV x hashesB).1 sha256B).1 = y2 at *
  generalize (getV x hashesB).2 = b1 at *
  generalize (getV x hashesB).1 = y1 at *
  obtain ⟨k, n, t, ks, vs⟩ := x
  obtain ⟨k1, n1, t1, ks1, vs1⟩ := y1
  obtain ⟨k2, n2, t2, ks2, vs2⟩ := y2
  refine UCall (n := 22) (H0 := H) (objs := []) Tryz.func16 (by kernel_rfl) rfl (by rw [Tryz.ntmps16]; rfl) .nil <| ?_
  refine Q.rg <| S.dd <| D.box rfl rfl rfl fun p1 => Q.as rfl <| Q.nt <| Q.rg <| S.qu (Z.ldw 0 ty26 rfl rfl rfl) <| S.qu (Z.call rfl rfl (fun H => hg1 H)) <| Q.mv rfl <| S.qu (Z.ex rfl rfl) <| S.qu (Z.ex rfl rfl) <| S.dd <| D.al z26 rfl rfl rfl fun p3 => S.s <| D.st 0 ty26 rfl rfl rfl rfl rfl rfl rfl rfl fun _ => Q.as rfl <| Q.nt <| Q.rg <| S.qu (Z.ldw 0 ty26 rfl rfl rfl) <| S.qu (Z.call rfl rfl (fun H => hg2 H)) <| Q.mv rfl <| S.qu (Z.ex rfl rfl) <| S.qu (Z.ex rfl rfl) <| S.dd <| D.al z26 rfl rfl rfl fun p5 => S.s <| D.st 0 ty26 rfl rfl rfl rfl rfl rfl rfl rfl fun _ => Q.as rfl <| Q.nt <| S.sq <| ?_
  refine' UW.draw' (by kernel_rfl) [0, 0, 2, 6, 15, 31] [some 17, some 18, some 19, some 20, some 21, some 2] [some (17, _), some (18, _), some (19, _), some (20, _), some (21, _), some (2, _)] [] [0, 1] rfl (by decide) (by decide) (QAll.held (by decide) rfl rfl ?q2x0_0 (QAll.held (by decide) rfl rfl ?q2x0_1 (QAll.free (by decide) rfl rfl ?q2x0_2 (QAll.free (by decide) rfl rfl ?q2x0_3 (QAll.free (by decide) rfl rfl ?q2x0_4 (QAll.free (by decide) rfl rfl ?q2x0_5 QAll.nil)))))) ?q2x0_k
  case q2x0_0 => exact Z.ldw 0 ty26 rfl rfl rfl
  case q2x0_1 => exact Z.ldw 2 ty26 rfl rfl rfl
  case q2x0_2 => (intro _; exact Z.callg rfl rfl (fun _ hS => hh _ (hG.mono hS)))
  case q2x0_3 => (intro _; exact Z.call rfl rfl (fun H => str_spec h H))
  case q2x0_4 => (intro _; exact Z.call rfl rfl (fun H => hsm H))
  case q2x0_5 => (intro _; exact Z.as rfl)
  refine CH.nil <| ?_
  simp only [app, finL]
  refine UQ.then <| UW.ret <| S.rtR (fun _ => res_tmp rfl rfl) <| ?_
  rfl
end Go.Proofs.YtgmfgmbgmjbdhaaGreatDoor
end
section
namespace Go.Eng
open Go Go.RowKit
end Go.Eng
namespace Go.Proofs.YtgmfgmbgmjbdhaaGreatDoor
open Go Go.RowKit Go.Eng
set_option linter.unusedSimpArgs false
set_option linter.unusedVariables false
set_option maxRecDepth 100000
set_option maxHeartbeats 4000000
theorem eqT_self (a : ByteArray) : eqT a a = true := by unfold eqT; simp
theorem eqBy_self {α : Type} {f : α → α → Bool} (l : List α) (h : ∀ a ∈ l, f a a = true) : eqBy f l l = true :=
  eqBy_true rfl fun i h1 _ => h _ (List.getElem_mem h1)
theorem same_self (x : V) (hx : Fits x) : sameV x x = true := by
  induction hx with
  | mk k n t ks vs h1 h2 h ih =>
  rw [sameV, samesV_eq, eqBy_self _ ih, eqBy_self _ (fun a _ => eqT_self a), eqT_self]
  simp
end Go.Proofs.YtgmfgmbgmjbdhaaGreatDoor
end
section
namespace Go.Proofs.YtgmfgmbgmjbdhaaGreatDoor
open Go Go.RowKit Go.Eng
set_option linter.unusedSimpArgs false
set_option linter.unusedVariables false
set_option maxRecDepth 100000
set_option maxHeartbeats 4000000
def nbOk (s : ByteArray) (p : Nat) : Bool := !isB s p 32 && !isB s p 9 && !isB s p 10 && !isB s p 13
theorem nbK (s : ByteArray) (p d : Nat) (hs : s.size ≤ 1000000) (h : nbOk s p = true) (H : Hp) : ACall Tryz.prog 70 [.agg (rdA s p d)] H (IsR H (.agg (rdA s p d))) := by
  unfold nbOk at h
  simp only [Bool.and_eq_true, Bool.not_eq_true'] at h
  exact blanks_spec s p d hs h.1.1.1 h.1.1.2 h.1.2 h.2 H
def strOk (u : ByteArray) (m : Nat) (t : ByteArray) : Bool := decide (m + 2 ≤ u.size) && (bAt u 0 == 34) && ((List.range m).all fun j => decide (32 ≤ bAt u ((1 + j : Nat) : Int)) && !(bAt u ((1 + j : Nat) : Int) == 34) && !(bAt u ((1 + j : Nat) : Int) == 92) && (oneV (u.extract (1 + j) u.size) == 1)) && (bAt u ((1 + m : Nat) : Int) == 34) && ((u.extract 1 (1 + m)).data.toList == t.data.toList)
theorem strK (s : ByteArray) (p d m : Nat) (t : ByteArray) (hs : s.size ≤ 1000) (hp : p ≤ s.size) (hm : m ≤ 1000) (h : strOk (s.extract p s.size) m t = true) (H : Hp) : ACall Tryz.prog 108 [.agg (rdA s p d)] H (IsR H (.tup [.agg (rdA s (p + (m + 2)) d), .v (.string t)])) := by
  unfold strOk at h
  simp only [Bool.and_eq_true, decide_eq_true_eq, beq_iff_eq, List.all_eq_true, List.mem_range, Bool.not_eq_true', beq_eq_false_iff_ne] at h
  obtain ⟨⟨⟨⟨h1, h2⟩, h3⟩, h4⟩, h5⟩ := h
  have ht : (s.extract p s.size).extract 1 (1 + m) = t := ByteArray.ext (Array.ext' h5)
  have hus : (s.extract p s.size).size ≤ 1000000 := by rw [ByteArray.size_extract]; omega
  refine strP_spec s p d m (by omega) hp t (fun H => ?_) (by omega) H
  have hq := unq_spec (s.extract p s.size) m h1 hus h2 (fun j hj => ⟨(h3 j hj).1.1.1, (h3 j hj).1.1.2, (h3 j hj).1.2⟩) h4 (fun j hj => (h3 j hj).2) H
  rw [ht] at hq
  exact hq
theorem valSK (s : ByteArray) (p d m : Nat) (t : ByteArray) (hs : s.size ≤ 1000) (hp : p ≤ s.size) (hm : m ≤ 1000) (h : strOk (s.extract p s.size) m t = true) (h1 : isB s p 91 = false) (h2 : isB s p 123 = false) (h3 : isB s p 34 = true) (H : Hp) : ACall Tryz.prog 71 [.agg (rdA s p d)] H (IsR H (.tup [.agg (rdA s (p + (m + 2)) d), .agg (encV (strV t))])) :=
  valueS_spec s p d _ (by omega) h1 h2 h3 t (fun H => strK s p d m t hs hp hm h H) H
def numOk (s : ByteArray) (p : Nat) (n : Int) : Bool := decide (p + 1 < s.size) && !isB s p 91 && !isB s p 123 && !isB s p 34 && !isB s p 45 && decide (0 ≤ n) && decide (n ≤ 9) && (bAt s (p : Int) == 48 + n) && decide (57 < bAt s ((p + 1 : Nat) : Int) ∨ bAt s ((p + 1 : Nat) : Int) < 46) && !(bAt s ((p + 1 : Nat) : Int) == 101) && !(bAt s ((p + 1 : Nat) : Int) == 69)
theorem valNK (s : ByteArray) (p d : Nat) (n : Int) (hs : s.size ≤ 1000) (h : numOk s p n = true) (H : Hp) : ACall Tryz.prog 71 [.agg (rdA s p d)] H (IsR H (.tup [.agg (rdA s (p + 1) d), .agg (encV (numV n))])) := by
  unfold numOk at h
  simp only [Bool.and_eq_true, decide_eq_true_eq, beq_iff_eq, Bool.not_eq_true', beq_eq_false_iff_ne] at h
  obtain ⟨⟨⟨⟨⟨⟨⟨⟨⟨⟨h1, h2⟩, h3⟩, h4⟩, h5⟩, h6⟩, h7⟩, h8⟩, h9⟩, h10⟩, h11⟩ := h
  exact valueN_spec s p d _ (by omega) h2 h3 h4 h5 n (fun H => digits1_spec s p d (by omega) h1 (by omega) (by omega) H) (fun H => number1_spec s p d (by omega) h1 h5 (by omega) (by omega) h10 h11 n h8 H) H
def colOk (s : ByteArray) (q : Nat) : Bool := nbOk s q && isB s q 58 && nbOk s (q + 1)
theorem pairK (s : ByteArray) (p d m q2 N : Nat) (v u : V) (key : ByteArray) (hs : s.size ≤ 1000) (hp : p ≤ s.size) (hm : m ≤ 1000) (hN : N ≤ 1000) (h : strOk (s.extract p s.size) m key = true) (hv : Ev v N) (hno : (getV v key).2 = false) (hc : colOk s (p + (m + 2)) = true)
    (hval : ∀ H, ACall Tryz.prog 71 [.agg (rdA s (p + (m + 2) + 1) d)] H (IsR H (.tup [.agg (rdA s q2 d), .agg (encV u)]))) (H : Hp) : ACall Tryz.prog 131 [.agg (rdA s p d), .agg (encV v)] H (IsR H (.tup [.agg (rdA s q2 d), .agg (encV (withV v key u))])) := by
  unfold colOk at hc
  simp only [Bool.and_eq_true] at hc
  exact pair_spec s p d _ q2 (by omega) (by omega) v u key (hv.fits (by omega)) hv.keys hno (fun H => strK s p d m key hs hp hm h H) (fun H => nbK s _ d (by omega) hc.1.1 H) hc.1.2 (fun H => nbK s _ d (by omega) hc.2 H) hval H
def kT : ByteArray := ⟨#[123, 34, 116, 121, 112, 101, 34, 58, 34, 109, 46, 114, 111, 111, 109, 46, 109, 101, 109, 98, 101, 114, 34, 44, 34, 99, 111, 110, 116, 101, 110, 116, 34, 58, 123, 34, 109, 101, 109, 98, 101, 114, 115, 104, 105, 112, 34, 58, 34, 106, 111, 105, 110, 34, 44, 34, 120, 34, 58, 49, 125, 44, 34, 121, 34, 58, 50, 125]⟩
def kOut : ByteArray := ⟨#[123, 34, 99, 111, 110, 116, 101, 110, 116, 34, 58, 123, 34, 109, 101, 109, 98, 101, 114, 115, 104, 105, 112, 34, 58, 34, 106, 111, 105, 110, 34, 125, 44, 34, 116, 121, 112, 101, 34, 58, 34, 109, 46, 114, 111, 111, 109, 46, 109, 101, 109, 98, 101, 114, 34, 125]⟩
def kType : ByteArray := ⟨#[116, 121, 112, 101]⟩
def kMem : ByteArray := ⟨#[109, 46, 114, 111, 111, 109, 46, 109, 101, 109, 98, 101, 114]⟩
def kContent : ByteArray := ⟨#[99, 111, 110, 116, 101, 110, 116]⟩
def kMship : ByteArray := ⟨#[109, 101, 109, 98, 101, 114, 115, 104, 105, 112]⟩
def kJoin : ByteArray := ⟨#[106, 111, 105, 110]⟩
def kX : ByteArray := ⟨#[120]⟩
def kY : ByteArray := ⟨#[121]⟩
def kE : V := .mk 5 0 ⟨#[]⟩ [] []
def kI1 : V := withV kE kMship (strV kJoin)
def kI2 : V := withV kI1 kX (numV 1)
def kO1 : V := withV kE kType (strV kMem)
def kO2 : V := withV kO1 kContent kI2
def kO3 : V := withV kO2 kY (numV 2)
theorem ev_kI1 : Ev kI1 1 := ev_empty.with (by decide) (strV_fits _)
theorem ev_kI2 : Ev kI2 2 := ev_kI1.with (by decide) (fits_num _)
theorem ev_kO1 : Ev kO1 1 := ev_empty.with (by decide) (strV_fits _)
theorem ev_kO2 : Ev kO2 2 := ev_kO1.with (by decide) (ev_kI2.fits (by decide))
theorem ev_kO3 : Ev kO3 3 := ev_kO2.with (by decide) (fits_num _)
theorem inner_spec (H : Hp) : ACall Tryz.prog 107 [.agg (rdA kT 34 2), .v (.int .u8 125)] H (IsR H (.tup [.agg (rdA kT 61 2), .agg (encV kI2)])) := by
  refine many_spec kT 34 2 2 (by decide) (by decide) (by decide) (fun i => if i = 0 then 35 else 55) (fun i => if i = 0 then 54 else 60) (fun i => if i = 0 then kE else if i = 1 then kI1 else kI2) (fun i hi => ?_) rfl rfl (fun H => nbK kT 35 2 (by decide) (by kernel_rfl) H) (by kernel_rfl) (fun i hi H => ?_) (fun i hi H => ?_) (fun i hi => ?_) (fun i hi H => ?_) (by kernel_rfl) H
  · match i, hi with
    | 0, _ => decide
    | 1, _ => decide
  · match i, hi with
    | 0, _ => exact pairK kT 35 2 10 54 0 kE (strV kJoin) kMship (by decide) (by decide) (by decide) (by decide) (by kernel_rfl) ev_empty (by kernel_rfl) (by kernel_rfl) (fun H => valSK kT 48 2 4 kJoin (by decide) (by decide) (by decide) (by kernel_rfl) (by kernel_rfl) (by kernel_rfl) (by kernel_rfl) H) H
    | 1, _ => exact pairK kT 55 2 1 60 1 kI1 (numV 1) kX (by decide) (by decide) (by decide) (by decide) (by kernel_rfl) ev_kI1 (by kernel_rfl) (by kernel_rfl) (fun H => valNK kT 59 2 1 (by decide) (by kernel_rfl) H) H
  · match i, hi with
    | 0, _ => exact nbK kT 54 2 (by decide) (by kernel_rfl) H
    | 1, _ => exact nbK kT 60 2 (by decide) (by kernel_rfl) H
  · match i, hi with
    | 0, _ => exact ⟨by kernel_rfl, by kernel_rfl, rfl⟩
  · match i, hi with
    | 0, _ => exact nbK kT 55 2 (by decide) (by kernel_rfl) H
theorem outer_spec (H : Hp) : ACall Tryz.prog 107 [.agg (rdA kT 0 1), .v (.int .u8 125)] H (IsR H (.tup [.agg (rdA kT 68 1), .agg (encV kO3)])) := by
  refine many_spec kT 0 1 3 (by decide) (by decide) (by decide) (fun i => if i = 0 then 1 else if i = 1 then 24 else 62) (fun i => if i = 0 then 23 else if i = 1 then 61 else 67) (fun i => if i = 0 then kE else if i = 1 then kO1 else if i = 2 then kO2 else kO3) (fun i hi => ?_) rfl rfl (fun H => nbK kT 1 1 (by decide) (by kernel_rfl) H) (by kernel_rfl) (fun i hi H => ?_) (fun i hi H => ?_) (fun i hi => ?_) (fun i hi H => ?_) (by kernel_rfl) H
  · match i, hi with
    | 0, _ => decide
    | 1, _ => decide
    | 2, _ => decide
  · match i, hi with
    | 0, _ => exact pairK kT 1 1 4 23 0 kE (strV kMem) kType (by decide) (by decide) (by decide) (by decide) (by kernel_rfl) ev_empty (by kernel_rfl) (by kernel_rfl) (fun H => valSK kT 8 1 13 kMem (by decide) (by decide) (by decide) (by kernel_rfl) (by kernel_rfl) (by kernel_rfl) (by kernel_rfl) H) H
    | 1, _ => exact pairK kT 24 1 7 61 1 kO1 kI2 kContent (by decide) (by decide) (by decide) (by decide) (by kernel_rfl) ev_kO1 (by kernel_rfl) (by kernel_rfl) (fun H => valueO_spec kT 34 1 61 (by decide) (by decide) (by kernel_rfl) (by kernel_rfl) kI2 (fun H => inner_spec H) H) H
    | 2, _ => exact pairK kT 62 1 1 67 2 kO2 (numV 2) kY (by decide) (by decide) (by decide) (by decide) (by kernel_rfl) ev_kO2 (by kernel_rfl) (by kernel_rfl) (fun H => valNK kT 66 1 2 (by decide) (by kernel_rfl) H) H
  · match i, hi with
    | 0, _ => exact nbK kT 23 1 (by decide) (by kernel_rfl) H
    | 1, _ => exact nbK kT 61 1 (by decide) (by kernel_rfl) H
    | 2, _ => exact nbK kT 67 1 (by decide) (by kernel_rfl) H
  · match i, hi with
    | 0, _ => exact ⟨by kernel_rfl, by kernel_rfl, rfl⟩
    | 1, _ => exact ⟨by kernel_rfl, by kernel_rfl, rfl⟩
  · match i, hi with
    | 0, _ => exact nbK kT 24 1 (by decide) (by kernel_rfl) H
    | 1, _ => exact nbK kT 62 1 (by decide) (by kernel_rfl) H
theorem chk_kT : chkR kT = -1 := by kernel_rfl
theorem kparse_spec (H : Hp) : ACall Tryz.prog 36 [.v (.string kT)] H (IsR H (.tup [.agg (encV kO3), .v (.int .i64 0), .v (.int .i64 0)])) :=
  parse_spec kT (by decide) (by rw [chk_kT]; decide) kO3 (fun H => nbK kT 0 0 (by decide) (by kernel_rfl) H) (fun H => valueO_spec kT 0 0 68 (by decide) (by decide) (by kernel_rfl) (by kernel_rfl) kO3 (fun H => outer_spec H) H) (fun H => nbK kT 68 0 (by decide) (by kernel_rfl) H) H
end Go.Proofs.YtgmfgmbgmjbdhaaGreatDoor
end
section
namespace Go.Proofs.YtgmfgmbgmjbdhaaGreatDoor
open Go Go.RowKit Go.Eng
set_option linter.unusedSimpArgs false
set_option linter.unusedVariables false
set_option maxRecDepth 100000
set_option maxHeartbeats 4000000
theorem Ev.get_with {x : V} {N : Nat} (h : Ev x N) (key : ByteArray) (y : V) : getV (withV x key y) key = (y, true) := by
  obtain ⟨k, n, t, ks, vs⟩ := x
  have h1 : k = 5 := h.k
  subst h1
  exact Go.Proofs.YtgmfgmbgmjbdhaaGreatDoor.get_with h.len h.asc key y
theorem Ev.wo_with {x : V} {N : Nat} (h : Ev x N) (key : ByteArray) (y : V) : withoutV (withV x key y) key = withoutV x key := by
  obtain ⟨k, n, t, ks, vs⟩ := x
  have h1 : k = 5 := h.k
  subst h1
  exact Go.Proofs.YtgmfgmbgmjbdhaaGreatDoor.wo_with h.len h.asc key y
theorem bare_sealed {x : V} {N : Nat} (h : Ev x N) : bareV (sealedV x) = bareV x := by unfold bareV sealedV; rw [h.wo_with]
theorem hash_sealed {x : V} {N : Nat} (h : Ev x N) : hashB (sealedV x) = hashB x := by unfold hashB; rw [bare_sealed h]
theorem get_seal (t : ByteArray) : getV (sealV t) sha256B = (strV t, true) := ev_empty.get_with sha256B (strV t)
theorem hashed_sealed {x : V} {N : Nat} (h : Ev x N) : hashedV (sealedV x) = true := by
  unfold hashedV
  rw [hash_sealed h]
  have e : getV (sealedV x) hashesB = (sealV (hashB x), true) := h.get_with _ _
  rw [e]
  show sameV (getV (sealV (hashB x)) sha256B).1 _ = true
  rw [get_seal]
  exact same_self _ (strV_fits _)
theorem same_zero_str (t : ByteArray) : sameV zeroV (strV t) = false := rfl
def kR : V := .mk 5 0 ⟨#[]⟩ [kContent, kType] [.mk 5 0 ⟨#[]⟩ [kMship] [strV kJoin], strV kMem]
theorem red_k : redP kO3 = kR := by kernel_rfl
theorem out_k : printV kR = kOut := by kernel_rfl
theorem bare_k : bareV kO3 = kO3 := by kernel_rfl
theorem gone_k : (getV (getV kO3 hashesB).1 sha256B).1 = zeroV := by kernel_rfl
theorem num_leaf {k n : Int} {t : ByteArray} (h0 : -9223372036854775808 ≤ n) (h1 : n ≤ 9223372036854775807) : NumV (.mk k n t [] []) := .mk _ _ _ _ _ h0 h1 (fun x h => by cases h)
theorem pr_kR : Pr kR := by
  refine ⟨?_, ?_, Nat.le_of_ble_eq_true (by kernel_rfl)⟩
  · refine .mk _ _ _ _ _ (by decide) (by show 2 ≤ 1000000; decide) fun y hy => ?_
    simp only [List.mem_cons, List.mem_nil_iff, or_false] at hy
    rcases hy with rfl | rfl
    · exact .mk _ _ _ _ _ (by decide) (by show 1 ≤ 1000000; decide) (fun y hy => by rw [List.mem_singleton.1 hy]; exact strV_fits _)
    · exact strV_fits _
  · refine .mk _ _ _ _ _ (by decide) (by decide) fun y hy => ?_
    simp only [List.mem_cons, List.mem_nil_iff, or_false] at hy
    rcases hy with rfl | rfl
    · exact .mk _ _ _ _ _ (by decide) (by decide) (fun y hy => by rw [List.mem_singleton.1 hy]; exact num_leaf (by decide) (by decide))
    · exact num_leaf (by decide) (by decide)
theorem norm_k : kO3 = .mk 5 0 ⟨#[]⟩ [kContent, kType, kY] [.mk 5 0 ⟨#[]⟩ [kMship, kX] [strV kJoin, numV 1], strV kMem, numV 2] := by kernel_rfl
theorem pr_kO3 : Pr (bareV kO3) := by
  rw [bare_k]
  refine ⟨ev_kO3.fits (by decide), ?_, Nat.le_of_ble_eq_true (by kernel_rfl)⟩
  rw [norm_k]
  refine .mk _ _ _ _ _ (by decide) (by decide) fun y hy => ?_
  simp only [List.mem_cons, List.mem_nil_iff, or_false] at hy
  rcases hy with rfl | rfl | rfl
  · refine .mk _ _ _ _ _ (by decide) (by decide) fun y hy => ?_
    simp only [List.mem_cons, List.mem_nil_iff, or_false] at hy
    rcases hy with rfl | rfl
    · exact num_leaf (by decide) (by decide)
    · exact num_leaf (by decide) (by decide)
  · exact num_leaf (by decide) (by decide)
  · exact num_leaf (by decide) (by decide)
theorem kn7_spec (H : Hp) (hG : Glob H) : ACall Tryz.prog 15 [] H (IsR H (.v (.bool true))) := by
  have hfk : Fits kO3 := ev_kO3.fits (by decide)
  have hfs : Fits (sealedV kO3) := (ev_kO3.with (key := hashesB) (by decide) (sealV_fits (hashB kO3))).fits (by decide)
  have hred : ∀ H, Glob H → ACall Tryz.prog 21 [.agg (encV kO3)] H (IsR H (.agg (encV kR))) := fun H h => red_k ▸ redact_spec kO3 hfk H h
  have hpr : ∀ H, ACall Tryz.prog 37 [.agg (encV kR)] H (IsR H (.v (.string kOut))) := fun H => out_k ▸ printR_spec kR pr_kR.fits pr_kR H
  have hkp : ∀ H, Glob H → ACall Tryz.prog 23 [.v (.string createB), .v (.string kX)] H (IsR H (.v (.bool true))) := fun H h => keptB_create (kind := createB) rfl kX ▸ kept_spec createB kX H h
  have hh1 : ∀ H, Glob H → ACall Tryz.prog 16 [.agg (encV kO3)] H (IsR H (.v (.bool false))) := fun H h => by
    have := hashed_spec kO3 hfk pr_kO3 H h
    rwa [show hashedV kO3 = false from by unfold hashedV; rw [gone_k]; exact same_zero_str _] at this
  have hse : ∀ H, Glob H → ACall Tryz.prog 11 [.agg (encV kO3)] H (IsR H (.agg (encV (sealedV kO3)))) := fun H h => sealed_spec kO3 hfk pr_kO3 H h
  have hh2 : ∀ H, Glob H → ACall Tryz.prog 16 [.agg (encV (sealedV kO3))] H (IsR H (.v (.bool true))) := fun H h => by
    have := hashed_spec (sealedV kO3) hfs (by rw [bare_sealed ev_kO3]; exact pr_kO3) H h
    rwa [hashed_sealed ev_kO3] at this
  have hpa : ∀ H, ACall Tryz.prog 36 [.v (.string kT)] H (IsR H (.tup [.agg (encV kO3), .v (.int .i64 0), .v (.int .i64 0)])) := fun H => kparse_spec H
  have hko : kOut.toList = kOut.toList := rfl
  generalize sealedV kO3 = sk at *
  generalize kO3 = kv at *
  clear hfk hfs
  refine UCall (n := 26) (H0 := H) (objs := []) Tryz.func15 (by kernel_rfl) rfl (by rw [Tryz.ntmps15]; rfl) .nil <| ?_
  refine Q.rg <| Q.as rfl <| Q.nt <| Q.rg <| S.qu (Z.call rfl rfl (fun H => hpa H)) <| Q.mv rfl <| S.qu (Z.ex rfl rfl) <| S.qu (Z.ex rfl rfl) <| S.qu (Z.ex rfl rfl) <| S.dd <| D.al z26 rfl rfl rfl fun p1 => S.s <| D.stw 0 ty26 rfl rfl rfl rfl (by exact encV_cell _) (encV_len _) rfl rfl fun _ => ?_
  refine Q.as rfl <| Q.as rfl <| Q.nt <| Q.rg <| S.qu (Z.ldw 0 ty26 rfl rfl (encV_len _)) <| S.qu (Z.callg rfl rfl (fun _ hS => hred _ (hG.mono hS))) <| S.qu (Z.call rfl rfl (fun H => hpr H)) <| S.qu (Z.bs rfl rfl rfl) <| Q.mv rfl <| S.tT 13 (beq_t (by assumption)) <| ?_
  refine Q.on (Z.callg rfl rfl (fun _ hS => hkp _ (hG.mono hS))) <| Q.pk rfl rfl <| Q.mv rfl <| Q.on (Z.ldw 0 ty26 rfl rfl (encV_len _)) <| Q.on (Z.callg rfl rfl (fun _ hS => hh1 _ (hG.mono hS))) <| Q.on (Z.not rfl) <| Q.pk rfl rfl <| Q.mv rfl <| S.tT 21 rfl <| Q.on (Z.ldw 0 ty26 rfl rfl (encV_len _)) <| Q.on (Z.callg rfl rfl (fun _ hS => hse _ (hG.mono hS))) <| Q.on (Z.callg rfl rfl (fun _ hS => hh2 _ (hG.mono hS))) <| Q.pk rfl rfl <| Q.as rfl <| Q.nt <| UW.ret <| S.rtR (fun _ => res_tmp rfl rfl) <| ?_
  rfl
end Go.Proofs.YtgmfgmbgmjbdhaaGreatDoor
end
section
namespace Go.Proofs.YtgmfgmbgmjbdhaaGreatDoor
open Go Go.RowKit Go.Eng
set_option linter.unusedSimpArgs false
set_option linter.unusedVariables false
set_option maxRecDepth 100000
theorem wtVs_app : ∀ a b : List V, wtVs (a ++ b) = wtVs a + wtVs b
  | [], b => by show wtVs b = 0 + wtVs b; omega
  | x :: r, b => by
    have := wtVs_app r b
    show wtVs (x :: (r ++ b)) = _
    rw [wtVs, wtVs, this]; omega
theorem wtVs_split (l : List V) (n : Nat) : wtVs (l.take n) + wtVs (l.drop n) = wtVs l := by rw [← wtVs_app, List.take_append_drop]
theorem wtVs_set : ∀ (l : List V) (i : Nat) (y : V), wtVs (l.set i y) ≤ wtVs l + wtV y + 1
  | [], i, y => by show wtVs [] ≤ _; omega
  | x :: r, 0, y => by show wtVs (y :: r) ≤ _; rw [wtVs, wtVs]; omega
  | x :: r, i + 1, y => by have := wtVs_set r i y; show wtVs (x :: r.set i y) ≤ _; rw [wtVs, wtVs]; omega
theorem wtK_app : ∀ a b : List ByteArray, wtK (a ++ b) = wtK a + wtK b
  | [], b => by show wtK b = 0 + wtK b; omega
  | x :: r, b => by
    have := wtK_app r b
    show wtK (x :: (r ++ b)) = _
    rw [wtK, wtK, this]; omega
theorem wtK_split (l : List ByteArray) (n : Nat) : wtK (l.take n) + wtK (l.drop n) = wtK l := by rw [← wtK_app, List.take_append_drop]
theorem wt_eq (x : V) : wtV x = 30 + 6 * x.t.size + wtK x.ks + wtVs x.vs := by obtain ⟨k, n, t, ks, vs⟩ := x; exact wtV_mk ..
theorem wt_obj (x : V) : wtV (objV x) ≤ wtV x := by
  unfold objV
  split
  · omega
  · rw [wtV_mk, wt_eq x]; show 30 + 6 * 0 + 0 + 0 ≤ _; omega
theorem wt_cut (x : V) : wtV (cutV x) ≤ wtV x := by
  unfold cutV
  rw [wtV_mk, wt_eq x]
  have h1 := wtK_split x.ks (min x.ks.length x.vs.length)
  have h2 := wtVs_split x.vs (min x.ks.length x.vs.length)
  omega
theorem wtK_ins (l : List ByteArray) (i : Nat) (s : ByteArray) : wtK (insAt l i s) = wtK l + 6 * s.size + 4 := by
  unfold insAt
  have := wtK_split l i
  rw [wtK_app, wtK]; omega
theorem wtVs_ins (l : List V) (i : Nat) (y : V) : wtVs (insAt l i y) = wtVs l + wtV y + 1 := by
  unfold insAt
  have := wtVs_split l i
  rw [wtVs_app, wtVs]; omega
theorem wt_with (x : V) (key : ByteArray) (y : V) : wtV (withV x key y) ≤ wtV x + 6 * key.size + wtV y + 5 := by
  have h1 := wt_obj x
  have h2 := wt_cut (objV x)
  rw [wt_eq (cutV (objV x))] at h2
  have h3 : (cutV (objV x)).t = (objV x).t := rfl
  rw [h3] at h2
  unfold withV
  split
  · rename_i i _
    rw [wtV_mk]
    have := wtVs_set (cutV (objV x)).vs i y
    omega
  · rw [wtV_mk, wtK_ins, wtVs_ins]
    omega
theorem wt_without (x : V) (key : ByteArray) : wtV (withoutV x key) ≤ wtV x := by
  unfold withoutV
  split
  · rename_i i _
    have h2 := wt_cut x
    rw [wt_eq (cutV x)] at h2
    have h3 : (cutV x).t = x.t := rfl
    rw [h3] at h2
    rw [wtV_mk]
    unfold cutAt
    rw [wtK_app, wtVs_app]
    have h4 := wtK_split (cutV x).ks i
    have h5 := wtVs_split (cutV x).vs i
    have h6 : wtK ((cutV x).ks.drop (i + 1)) ≤ wtK ((cutV x).ks.drop i) := by
      have := wtK_split ((cutV x).ks.drop i) 1
      rw [List.drop_drop] at this; omega
    have h7 : wtVs ((cutV x).vs.drop (i + 1)) ≤ wtVs ((cutV x).vs.drop i) := by
      have := wtVs_split ((cutV x).vs.drop i) 1
      rw [List.drop_drop] at this; omega
    omega
  · omega
theorem NumV.n0 {x : V} (h : NumV x) : -9223372036854775808 ≤ x.n ∧ x.n ≤ 9223372036854775807 := by cases h with | mk k n t ks vs h0 h1 h => exact ⟨h0, h1⟩
theorem NumV.kid {x : V} (h : NumV x) {v : V} (hv : v ∈ x.vs) : NumV v := by cases h with | mk k n t ks vs h0 h1 h => exact h v hv
theorem num_of {k n : Int} {t : ByteArray} {ks : List ByteArray} {vs : List V} (h : -9223372036854775808 ≤ n ∧ n ≤ 9223372036854775807) (hv : ∀ x ∈ vs, NumV x) : NumV (.mk k n t ks vs) := .mk _ _ _ _ _ h.1 h.2 hv
theorem num_obj {x : V} (h : NumV x) : NumV (objV x) := by
  unfold objV
  split
  · exact h
  · exact num_of (by decide) (fun x hx => by cases hx)
theorem num_with {x : V} {y : V} (hx : NumV x) (hy : NumV y) (key : ByteArray) : NumV (withV x key y) := by
  have h1 := num_obj hx
  have e : (withV x key y).n = (objV x).n := by unfold withV; split <;> rfl
  have h2 : NumV (.mk (withV x key y).k (withV x key y).n (withV x key y).t (withV x key y).ks (withV x key y).vs) := num_of (by rw [e]; exact h1.n0) (fun v hv => (withV_vals hv).elim (fun h => h1.kid h) (fun h => h ▸ hy))
  generalize withV x key y = w at h2
  obtain ⟨k, n, t, ks, vs⟩ := w
  exact h2
theorem num_without {x : V} (hx : NumV x) (key : ByteArray) : NumV (withoutV x key) := by
  unfold withoutV
  split
  · refine num_of hx.n0 (fun v hv => hx.kid ?_)
    rcases List.mem_append.1 hv with h | h
    · exact List.mem_of_mem_take (List.mem_of_mem_take h)
    · exact List.mem_of_mem_take (List.mem_of_mem_drop h)
  · exact hx
/-- A value's numbers fit, and it is not too heavy. -/
structure Wt (N : Nat) (x : V) : Prop where
  num : NumV x
  wt : wtV x ≤ N
theorem Wt.up {N M : Nat} {x : V} (h : Wt N x) (hm : N ≤ M) : Wt M x := ⟨h.num, by have := h.wt; omega⟩
theorem Wt.with {N M : Nat} {x y : V} (hx : Wt N x) (hy : Wt M y) {key : ByteArray} {K : Nat} (hk : key.size ≤ K) : Wt (N + M + 6 * K + 5) (withV x key y) :=
  ⟨num_with hx.num hy.num key, by have := wt_with x key y; have := hx.wt; have := hy.wt; omega⟩
theorem Wt.without {N : Nat} {x : V} (hx : Wt N x) (key : ByteArray) : Wt N (withoutV x key) := ⟨num_without hx.num key, by have := wt_without x key; have := hx.wt; omega⟩
theorem Wt.leaf {k n : Int} {t : ByteArray} {N : Nat} (h : -9223372036854775808 ≤ n ∧ n ≤ 9223372036854775807) (ht : 30 + 6 * t.size ≤ N) : Wt N (.mk k n t [] []) :=
  ⟨num_of h (fun x hx => by cases hx), by rw [wtV_mk]; show 30 + 6 * t.size + 0 + 0 ≤ _; omega⟩
theorem Wt.str {t : ByteArray} {N : Nat} (ht : 30 + 6 * t.size ≤ N) : Wt N (strV t) := .leaf (by decide) ht
theorem Wt.get {N : Nat} {x : V} (h : Wt N x) (hN : 30 ≤ N) (key : ByteArray) : Wt N (getV x key).1 := by
  have hz : Wt N zeroV := .leaf (by decide) (by show 30 + 6 * 0 ≤ N; omega)
  have hm : (getV x key).1 = zeroV ∨ (getV x key).1 ∈ x.vs := by
    unfold getV
    split
    · rename_i i _
      by_cases hi : i < x.vs.length
      · exact .inr (getD_mem hi)
      · refine .inl ?_
        simp only [List.getD, List.getElem?_eq_none (Nat.le_of_not_lt hi)]; rfl
    · exact .inl rfl
  rcases hm with h1 | h1
  · rw [h1]; exact hz
  · refine ⟨h.num.kid h1, ?_⟩
    have h2 := wtVs_mem h1
    have h3 := h.wt
    rw [wt_eq x] at h3
    omega
theorem keyL_ten : ∀ s ∈ keyL, s.size ≤ 10 := by decide
theorem keyL_at (i : Nat) : (keyL.getD i ⟨#[]⟩).size ≤ 10 := by
  by_cases hi : i < keyL.length
  · exact keyL_ten _ (getD_mem hi)
  · simp only [List.getD, List.getElem?_eq_none (Nat.le_of_not_lt hi)]; decide
theorem objF_wt (b1 : Int) (kids : List V) (hk : ∀ x ∈ kids, NumV x) : ∀ q, q ≤ kids.length → Wt (30 + 70 * q + wtVs (kids.take q)) (objF b1 kids q)
  | 0, _ => .leaf (by decide) (by show 30 + 6 * 0 ≤ _; omega)
  | q + 1, hq => by
    have ih := objF_wt b1 kids hk q (by omega)
    have hy : Wt (wtV (kids.getD q zeroV)) (kids.getD q zeroV) := ⟨hk _ (getD_mem (by omega)), Nat.le_refl _⟩
    refine (ih.with hy (keyL_at (keyI b1 q))).up ?_
    rw [List.take_add_one, List.getElem?_eq_getElem (by omega : q < kids.length), wtVs_app]
    have e : kids.getD q zeroV = kids[q] := getD_at (by omega)
    rw [e]
    show _ ≤ 30 + 70 * (q + 1) + (wtVs (kids.take q) + wtVs [kids[q]])
    rw [wtVs, wtVs]
    omega
theorem swV_wt (b0 b1 : Int) (hb0 : 0 ≤ b1) (hb1 : b1 ≤ 255) (t : ByteArray) (ht : t.size ≤ 160) (l : List V) (hl : ∀ x ∈ l, NumV x) : NumV (swV b0 b1 t l).2 ∧ wtVs (l.take (swV b0 b1 t l).1) + wtV (swV b0 b1 t l).2 ≤ wtVs l + 2000 := by
  have hk : ∀ x ∈ kidsV b1 l, NumV x := fun x hx => hl x (List.mem_of_mem_drop hx)
  have h4 : (b1.tmod 4).toNat < 4 := by have := Int.tmod_lt_of_pos b1 (by decide : (0 : Int) < 4); omega
  have hkl : (kidsV b1 l).length ≤ 4 := by unfold kidsV takeK; rw [List.length_drop]; omega
  have h20 := Int.tmod_nonneg 2 hb0
  have h21 := Int.tmod_lt_of_pos b1 (by decide : (0 : Int) < 2)
  have ha : wtVs (l.take l.length) = wtVs l := by rw [List.take_length]
  have hs : wtVs (l.take (l.length - takeK b1 l)) + wtVs (kidsV b1 l) = wtVs l := wtVs_split l _
  have leaf : ∀ (k n : Int) (u : ByteArray), -9223372036854775808 ≤ n ∧ n ≤ 9223372036854775807 → u.size ≤ 160 → NumV (.mk k n u [] []) ∧ wtVs (l.take l.length) + wtV (.mk k n u [] []) ≤ wtVs l + 2000 := fun k n u h1 h2 => by
    have h3 : Wt (30 + 6 * u.size) (.mk k n u [] []) := .leaf h1 (Nat.le_refl _)
    have := h3.wt
    exact ⟨h3.num, by omega⟩
  unfold swV
  repeat' split
  · exact leaf _ _ _ (by omega) (by decide)
  · exact leaf _ _ _ (by omega) (by decide)
  · exact leaf _ _ _ (by omega) (by decide)
  · exact leaf _ _ _ (by decide) (by decide)
  · exact leaf _ _ _ (by decide) ht
  · refine ⟨num_of (by decide) hk, ?_⟩
    show wtVs (l.take (l.length - takeK b1 l)) + wtV _ ≤ _
    rw [wtV_mk]
    show _ + (30 + 6 * 0 + 0 + _) ≤ _
    omega
  · have := objF_wt b1 (kidsV b1 l) hk (kidsV b1 l).length (Nat.le_refl _)
    refine ⟨this.num, ?_⟩
    have h5 := this.wt
    rw [List.take_length] at h5
    show wtVs (l.take (l.length - takeK b1 l)) + wtV (objF b1 (kidsV b1 l) (kidsV b1 l).length) ≤ _
    omega
  · exact leaf _ _ _ (by decide) (by decide)
theorem bys_getD {c : List Int} (hc : Bys c) (i : Nat) : 0 ≤ c.getD i 0 ∧ c.getD i 0 ≤ 255 := by
  by_cases hi : i < c.length
  · have := hc _ (getD_mem (z := (0 : Int)) hi); omega
  · simp only [List.getD, List.getElem?_eq_none (Nat.le_of_not_lt hi)]; decide
theorem valL_wt {c : List Int} (hc : Bys c) : ∀ n, (∀ x ∈ valL c n, NumV x) ∧ wtVs (valL c n) ≤ 2001 * n
  | 0 => ⟨fun x (hx : x ∈ ([] : List V)) => absurd hx (List.not_mem_nil), Nat.zero_le _⟩
  | n + 1 => by
    obtain ⟨h1, h2⟩ := valL_wt hc n
    obtain ⟨h3, h4⟩ := swV_wt (c.getD (2 * n) 0) (c.getD (2 * n + 1) 0) (bys_getD hc _).1 (bys_getD hc _).2 (textOf ((c.take (min c.length (2 * n + 3))).drop (2 * n))) (textOf_size _) (valL c n) h1
    constructor
    · intro x hx
      rcases List.mem_append.1 hx with h | h
      · exact h1 x (List.mem_of_mem_take h)
      · rw [List.mem_singleton.1 h]; exact h3
    · show wtVs (_ ++ [_]) ≤ _
      rw [wtVs_app, wtVs, wtVs]
      omega
theorem part_wt {c : List Int} (hc : Bys c) (b : Int) (hb : 0 ≤ b) : Wt 100000 (partV c b) := by
  rcases partV_mem c b hb with h | ⟨h, _⟩
  · rw [h]; exact .leaf (by decide) (by decide)
  · obtain ⟨h1, h2⟩ := valL_wt hc (min (c.length / 2) 30)
    have h3 := wtVs_mem h
    have h4 : (valOf c).vs = valL c (min (c.length / 2) 30) := rfl
    rw [h4] at h3 h
    exact ⟨h1 _ h, by omega⟩
end Go.Proofs.YtgmfgmbgmjbdhaaGreatDoor
end
