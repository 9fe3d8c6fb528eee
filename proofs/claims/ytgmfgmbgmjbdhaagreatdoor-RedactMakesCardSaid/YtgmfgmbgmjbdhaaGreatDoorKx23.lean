/- The document's answers of layer 2: what they compute: With, Str, Num, Texts. · Samples: texts out of choices. · The engine, last part: from a contract to the row of a statement. · Arguments of octets: opened as a list. -/
import Derived.Test.YtgmfgmbgmjbdhaaGreatDoorKx22
import Derived.Test.YtgmfgmbgmjbdhaaGreatDoorKx09
import Derived.ProofKit
import Derived.OpenShut
import Derived.ChangeSame
import Derived.ChangeSlices
section
namespace Go.Proofs.YtgmfgmbgmjbdhaaGreatDoor
open Go Go.RowKit Go.Eng
set_option linter.unusedSimpArgs false
set_option linter.unusedVariables false
set_option maxRecDepth 100000
theorem bytes_ext {a b : ByteArray} (h : a.toList = b.toList) : a = b := by
  rw [Lib.toList_data, Lib.toList_data] at h
  exact ByteArray.ext (Array.toList_inj.1 h)
theorem keyIdx_eq {l : List ByteArray} {s : ByteArray} {i : Nat} (h : keyIdx l s = some i) : l[i]? = some s := by
  unfold keyIdx at h
  obtain ⟨h1, h2, _⟩ := List.findIdx?_eq_some_iff_getElem.1 h
  rw [List.getElem?_eq_getElem h1]
  congr 1
  exact (bytes_ext (by simpa using h2)).symm
theorem pl_key {x : V} {key : ByteArray} {i : Nat} (h : pl x key = some i) : x.ks[i]? = some key := by
  unfold pl at h
  split at h
  · cases hi : keyIdx x.ks key with
    | none => rw [hi] at h; simp at h
    | some j =>
      rw [hi] at h
      simp only at h
      split at h
      · cases h; exact keyIdx_eq hi
      · cases h
  · cases h
theorem take_put {α : Type} (l : List α) (m i : Nat) (a : α) (hi : i < m) (h : l[i]? = some a) : l.take i ++ [a] ++ (l.take m).drop (i + 1) = l.take m := by
  have hl := (List.getElem?_eq_some_iff.1 h).1
  have hlm : i < (l.take m).length := by rw [List.length_take]; omega
  have e1 : (l.take m)[i] = a := by
    have : (l.take m)[i]? = some a := by rw [List.getElem?_take, if_pos hi]; exact h
    rw [List.getElem?_eq_getElem hlm] at this
    exact Option.some.inj this
  have e2 : l.take i = (l.take m).take i := by rw [List.take_take, Nat.min_eq_left (by omega)]
  rw [e2, List.append_assoc, List.singleton_append, ← e1, ← List.drop_eq_getElem_cons hlm, List.take_append_drop]
theorem take_set {α : Type} (l : List α) (m i : Nat) (a : α) (hi : i < m) (hl : i < l.length) : l.take i ++ [a] ++ (l.take m).drop (i + 1) = (l.take m).set i a := by
  have hlm : i < (l.take m).length := by rw [List.length_take]; omega
  rw [List.set_eq_take_append_cons_drop, if_pos hlm, List.take_take, Nat.min_eq_left (by omega)]
  simp
theorem take_ins {α : Type} (l : List α) (m i : Nat) (a : α) (hi : i ≤ m) : l.take i ++ [a] ++ (l.take m).drop (i + 0) = insAt (l.take m) i a := by
  unfold insAt
  rw [List.take_take, Nat.min_eq_left hi]; simp
theorem insAtPos_eq {ks : List ByteArray} {key : ByteArray} {i : Nat} (h1 : i ≤ ks.length) (h2 : ∀ j (h : j < ks.length), j < i → lessB ks[j] key = true) (h3 : ∀ h : i < ks.length, lessB ks[i] key = false) : insAtPos ks key = i := by
  unfold insAtPos insPos
  by_cases hi : i < ks.length
  · rw [(List.findIdx?_eq_some_iff_getElem).2 ⟨hi, by simp [h3 hi], fun j hj => by simp [h2 j (by omega) hj]⟩]
    show (if (i : Int) < 0 then _ else (i : Int).toNat) = i
    rw [if_neg (by omega)]; rfl
  · rw [(List.findIdx?_eq_none_iff).2 (fun x hx => by
      obtain ⟨j, hj, rfl⟩ := List.getElem_of_mem hx
      simp [h2 j hj (by omega)])]
    show (if (-1 : Int) < 0 then _ else _) = i
    rw [if_pos (by omega)]; omega
theorem with_put {x : V} {key : ByteArray} {y : V} {i : Nat} (h : pl x key = some i) : wiR x i 1 [key] [y] = withV x key y := by
  have h1 := pl_min h
  have h2 := pl_lt h
  have e1 : objV x = x := by unfold objV; rw [if_pos h2.2.2]
  unfold withV wiR
  rw [e1, h]
  simp only [cutV, vks, vvs]
  rw [take_put _ _ _ _ (by omega) (pl_key h), take_set _ _ _ _ (by omega) h2.1, h2.2.2]
theorem with_ins {x : V} {key : ByteArray} {y : V} {i : Nat} (hk : x.k = 5) (h : pl x key = none) (hi : i ≤ min x.ks.length x.vs.length) (h2 : ∀ j (h : j < x.ks.length), j < i → lessB x.ks[j] key = true) (h3 : ∀ h : i < x.ks.length, i < min x.ks.length x.vs.length → lessB x.ks[i] key = false) : wiR x i 0 [key] [y] = withV x key y := by
  have e1 : objV x = x := by unfold objV; rw [if_pos hk]
  have e2 : insAtPos (x.ks.take (min x.ks.length x.vs.length)) key = i := insAtPos_eq (by rw [List.length_take]; omega) (fun j hj hji => by rw [List.getElem_take]; exact h2 j _ hji) (fun hh => by rw [List.getElem_take]; exact h3 _ (by rw [List.length_take] at hh; omega))
  unfold withV wiR
  rw [e1, h]
  simp only [cutV, vks, vvs]
  rw [e2, take_ins _ _ _ _ (by omega), take_ins _ _ _ _ (by omega), hk]
theorem withR_spec (x : V) (hx : Fits x) (hks : ∀ s ∈ x.ks, s.size ≤ 4000000) (key : ByteArray) (y : V) (H : Hp) : ACall Tryz.prog 13 [.agg (encV x), .v (.string key), .agg (encV y)] H (IsR H (.agg (encV (withV x key y)))) := by
  by_cases hk : x.k = 5
  · cases hp : pl x key with
    | some i =>
      rw [← with_put hp]
      have hmin := pl_min hp
      obtain ⟨k, n, t, ks, vs⟩ := x
      simp only [V.k] at hk
      refine UCall (n := 58) (H0 := H) (objs := []) Tryz.func13 (by kernel_rfl) rfl (by rw [Tryz.ntmps13]; rfl) .nil <| ?_
      refine Q.rg <| S.dd <| D.box rfl rfl rfl fun p3 => S.dd <| D.box rfl rfl (by exact encV_cell _) fun p5 => ?_
      refine S.dd <| D.al z26 rfl rfl rfl fun p6 => Q.nt <| S.sq <| Q.rg <| Q.fa f26_0 rfl <| Q.lc 2 ty3 rfl rfl rfl <| Q.bi rfl rfl rfl <| Q.nt <| S.cF rfl (bne_f (by omega)) <| UW.skip <| UQ.then <| Q.rg <| S.qu (Z.ldw 2 ty26 rfl rfl rfl) <| Q.mv rfl <| S.qu (Z.call rfl rfl (fun _ => placeR_at hx hp _)) <| Q.as rfl <| Q.nt <| S.sq <| Q.rg <| Q.mv rfl <| Q.bi rfl rfl rfl <| Q.nt <| S.cT rfl (decide_eq_true (by omega)) <| Q.rg <| S.qu (Z.ldw 2 ty26 rfl rfl rfl) <| Q.mv rfl <| Q.mv rfl <| S.qu (Z.bl row23 rfl rfl (lit_ok rfl)) <| S.qu (Z.ldw 1 ty26 rfl rfl (encV_len _)) <| S.qu (Z.bl row24 rfl rfl (by intro cs h; cases List.mem_singleton.1 h; exact ⟨by exact encV_cell _, by exact encV_len _⟩)) <| ?_
      refine S.qu (Z.call rfl rfl (fun _ => withR_in (.mk k n t ks vs) hx i 1 [key] [y] hmin (by simp) (by simp) _)) <| ?_
      refine S.s <| D.st 0 ty26 rfl rfl rfl rfl rfl rfl rfl rfl fun _ => Q.nt <| UW.ret <| UQ.passR <| S.rtR (fun hd => res_cell (k := 0) hd rfl rfl rfl st26 sz26) <| ?_
      rfl
    | none =>
      obtain ⟨k, n, t, ks, vs⟩ := x
      simp only [V.k] at hk
      simp only [vks] at hks
      have hml : (ks.map encS).length = ks.length := List.length_map ..
      have hvl := encVs_len vs
      have hkl0 := hx.ksl
      have hvl0 := hx.vsl
      simp only [V.ks, V.vs] at hkl0 hvl0
      refine UCall (n := 58) (H0 := H) (objs := []) Tryz.func13 (by kernel_rfl) rfl (by rw [Tryz.ntmps13]; rfl) .nil <| ?_
      refine Q.rg <| S.dd <| D.box rfl rfl rfl fun p3 => S.dd <| D.box rfl rfl (by exact encV_cell _) fun p5 => ?_
      refine S.dd <| D.al z26 rfl rfl rfl fun p6 => Q.nt <| S.sq <| Q.rg <| Q.fa f26_0 rfl <| Q.lc 2 ty3 rfl rfl rfl <| Q.bi rfl rfl rfl <| Q.nt <| S.cF rfl (bne_f (by omega)) <| UW.skip <| UQ.then <| Q.rg <| S.qu (Z.ldw 2 ty26 rfl rfl rfl) <| Q.mv rfl <| S.qu (Z.call rfl rfl (fun _ => placeR_no hx hp _)) <| Q.as rfl <| Q.nt <| S.sq <| Q.rg <| Q.mv rfl <| Q.bi rfl rfl rfl <| Q.nt <| S.cF rfl (decide_eq_false (by omega)) <| UW.skip <| UQ.then <| Q.rg <| Q.as rfl <| Q.nt <| Q.rg <| Q.fa f26_3 rfl <| Q.lc 2 ty23 rfl rfl rfl <| S.qu (Z.lns sl23 rfl) <| Q.fa f26_4 rfl <| Q.lc 2 ty24 rfl rfl rfl <| S.qu (Z.lns sl24 rfl) <| ?_
      refine S.qu (Z.eq (u' := .v (.int .i64 ((min ks.length vs.length : Nat) : Int))) (Z.min rfl rfl) (by rw [hml, hvl]; congr 2; split <;> omega)) ?_
      refine Q.as rfl <| Q.nt <| S.sq <| UW.block <| S.loop (fun j : Nat => [(8, .v (.int .i64 (j : Int))), (9, .v (.int .i64 ((min ks.length vs.length : Nat) : Int))), (1, .v (.string key)), (3, .ptr p3 0), (5, .ptr p5 0), (6, .ptr p6 0)]) (fun _ => [(p6, .box 26 (encV zeroV)), (p5, .box 26 (encV y)), (p3, .box 26 (encV (.mk k n t ks vs)))]) (fun j => j ≤ min ks.length vs.length ∧ ∀ i (h : i < ks.length), i < j → lessB ks[i] key = true) (fun j => min ks.length vs.length - j) 0 ⟨Nat.zero_le _, fun i _ h => absurd h (by omega)⟩ ⟨rfl, rfl, rfl, rfl, rfl, rfl, trivial⟩ (.refl _) <| ?_
      rintro j ⟨hj, hjj⟩
      by_cases hlt : j < min ks.length vs.length
      · have hgl := strs_get ks j (by omega)
        have hsz := hks _ (List.getElem_mem (by omega : j < ks.length))
        cases hL : lessB (ks[j]'(by omega)) key with
        | true =>
          focus
            refine S.sq <| Q.rg <| Q.mv rfl <| Q.mv rfl <| Q.bi rfl rfl rfl <| Q.mv rfl <| ?_
            refine S.tD 40 (fun hc40 => ?_) (fun hc40 => ?_)
            rotate_left
            omega
            refine Q.on (Z.fa f26_3 rfl) <| Q.on (Z.ldc 2 ty23 rfl rfl rfl) <| Q.on (Z.mv rfl) <| Q.on (Z.ia sl23 rfl rfl (by omega) (by assumption) (by rfl)) <| ?_
            refine Q.on (Z.lpc ty9 rfl) <| Q.on (Z.mv rfl) <| Q.on (Z.eq (Z.call rfl rfl (fun _ => lessR_spec _ _ hsz _)) (by rw [hL])) <| ?_
            refine Q.pk rfl rfl <| Q.nt <| S.cT rfl rfl <| UW.skip <| UQ.then <| UW.block <| S.rg <| Q.mv rfl <| S.qu (Z.add (r := ((j + 1 : Nat) : Int)) rfl rfl (IntWalk.i64_in _ (by omega))) <| Q.as rfl <| US.nil <| UQ.blockN <| ?_
            refine S.back _ ⟨rfl, rfl, rfl, rfl, rfl, rfl, trivial⟩ (.refl _) ?_ (by omega)
          refine ⟨by omega, fun i h3 h4 => ?_⟩
          by_cases hij : i = j
          · subst hij; exact hL
          · exact hjj i h3 (by omega)
        | false =>
          rw [← with_ins (x := .mk k n t ks vs) (i := j) hk hp (by simp only [vks, vvs]; omega) hjj (fun _ _ => hL)]
          focus
            refine S.sq <| Q.rg <| Q.mv rfl <| Q.mv rfl <| Q.bi rfl rfl rfl <| Q.mv rfl <| ?_
            refine S.tD 40 (fun hc40 => ?_) (fun hc40 => ?_)
            rotate_left
            omega
            refine Q.on (Z.fa f26_3 rfl) <| Q.on (Z.ldc 2 ty23 rfl rfl rfl) <| Q.on (Z.mv rfl) <| Q.on (Z.ia sl23 rfl rfl (by omega) (by assumption) (by rfl)) <| ?_
            refine Q.on (Z.lpc ty9 rfl) <| Q.on (Z.mv rfl) <| Q.on (Z.eq (Z.call rfl rfl (fun _ => lessR_spec _ _ hsz _)) (by rw [hL])) <| ?_
            refine Q.pk rfl rfl <| Q.nt <| S.cF rfl rfl <| UW.exit <| UQ.pass <| UQ.pass <| UQ.here <| UQ.then <| Q.rg <| S.qu (Z.ldw 2 ty26 rfl rfl rfl) <| Q.mv rfl <| Q.mv rfl <| S.qu (Z.bl row23 rfl rfl (lit_ok rfl)) <| S.qu (Z.ldw 1 ty26 rfl rfl (encV_len _)) <| S.qu (Z.bl row24 rfl rfl (by intro cs h; cases List.mem_singleton.1 h; exact ⟨by exact encV_cell _, by exact encV_len _⟩)) <| ?_
            refine S.qu (Z.call rfl rfl (fun _ => withR_in (.mk k n t ks vs) hx j 0 [key] [y] (by simp only [vks, vvs]; omega) (by simp) (by simp) _)) <| ?_
            refine S.s <| D.st 0 ty26 rfl rfl rfl rfl rfl rfl rfl rfl fun _ => Q.nt <| UW.ret <| S.rtR (fun hd => res_cell (k := 0) hd rfl rfl rfl st26 sz26) <| ?_
            rfl
      · rw [← with_ins (x := .mk k n t ks vs) (i := j) hk hp (by simp only [vks, vvs]; omega) hjj (fun _ h => absurd h hlt)]
        refine S.sq <| Q.rg <| Q.mv rfl <| Q.mv rfl <| Q.bi rfl rfl rfl <| Q.mv rfl <| ?_
        refine S.tD 40 (fun hc40 => ?_) (fun hc40 => ?_)
        omega
        refine Q.of <| Q.of <| Q.of <| Q.of <| Q.of <| Q.of <| Q.of <| Q.pk rfl rfl <| Q.nt <| S.cF rfl rfl <| UW.exit <| UQ.pass <| UQ.pass <| UQ.here <| UQ.then <| Q.rg <| S.qu (Z.ldw 2 ty26 rfl rfl rfl) <| Q.mv rfl <| Q.mv rfl <| S.qu (Z.bl row23 rfl rfl (lit_ok rfl)) <| S.qu (Z.ldw 1 ty26 rfl rfl (encV_len _)) <| S.qu (Z.bl row24 rfl rfl (by intro cs h; cases List.mem_singleton.1 h; exact ⟨by exact encV_cell _, by exact encV_len _⟩)) <| ?_
        refine S.qu (Z.call rfl rfl (fun _ => withR_in (.mk k n t ks vs) hx j 0 [key] [y] (by simp only [vks, vvs]; omega) (by simp) (by simp) _)) <| ?_
        refine S.s <| D.st 0 ty26 rfl rfl rfl rfl rfl rfl rfl rfl fun _ => Q.nt <| UW.ret <| S.rtR (fun hd => res_cell (k := 0) hd rfl rfl rfl st26 sz26) <| ?_
        rfl
  · have e1 : objV x = .mk 5 0 ⟨#[]⟩ [] [] := by unfold objV; rw [if_neg hk]
    have e2 : withV x key y = .mk 5 0 ⟨#[]⟩ [key] [y] := by unfold withV; rw [e1]; rfl
    rw [e2]
    obtain ⟨k, n, t, ks, vs⟩ := x
    simp only [V.k] at hk
    refine UCall (n := 58) (H0 := H) (objs := []) Tryz.func13 (by kernel_rfl) rfl (by rw [Tryz.ntmps13]; rfl) .nil <| ?_
    refine Q.rg <| S.dd <| D.box rfl rfl rfl fun p3 => S.dd <| D.box rfl rfl (by exact encV_cell _) fun p5 => ?_
    refine S.dd <| D.al z26 rfl rfl rfl fun p6 => Q.nt <| S.sq <| Q.rg <| Q.fa f26_0 rfl <| Q.lc 2 ty3 rfl rfl rfl <| Q.bi rfl rfl rfl <| Q.nt <| S.cT rfl (bne_t (by omega)) <| Q.rg <| Q.mv rfl <| S.qu (Z.bl row23 rfl rfl (lit_ok rfl)) <| S.qu (Z.ldw 1 ty26 rfl rfl (encV_len _)) <| S.qu (Z.bl row24 rfl rfl (by intro cs h; cases List.mem_singleton.1 h; exact ⟨by exact encV_cell _, by exact encV_len _⟩)) <| ?_
    refine S.qu (Z.bd [0, 3, 4] bt26 rfl rfl rfl rfl rfl rfl) <| S.s <| D.st 0 ty26 rfl rfl rfl rfl rfl rfl rfl rfl fun _ => Q.nt <| UW.ret <| UQ.passR <| S.rtR (fun hd => res_cell (k := 0) hd rfl rfl rfl st26 sz26) <| ?_
    rfl
theorem strR_spec (s : ByteArray) (H : Hp) : ACall Tryz.prog 14 [.v (.string s)] H (IsR H (.agg (encV (strV s)))) := by
  refine UCall (n := 5) (H0 := H) (objs := []) Tryz.func14 (by kernel_rfl) rfl (by rw [Tryz.ntmps14]; rfl) .nil <| ?_
  refine Q.rg <| S.dd <| D.al z26 rfl rfl rfl fun p2 => Q.nt <| Q.rg <| Q.mv rfl <| S.qu (Z.bd [0, 2] bt26 rfl rfl rfl rfl rfl rfl) <| S.s <| D.st 0 ty26 rfl rfl rfl rfl rfl rfl rfl rfl fun _ => Q.nt <| UW.ret <| S.rtR (fun hd => res_cell (k := 0) hd rfl rfl rfl st26 sz26) <| ?_
  rfl
theorem numR_spec (n : Int) (H : Hp) : ACall Tryz.prog 45 [.v (.int .i64 n)] H (IsR H (.agg (encV (numV n)))) := by
  refine UCall (n := 5) (H0 := H) (objs := []) Tryz.func45 (by kernel_rfl) rfl (by rw [Tryz.ntmps45]; rfl) .nil <| ?_
  refine Q.rg <| S.dd <| D.al z26 rfl rfl rfl fun p2 => Q.nt <| Q.rg <| Q.mv rfl <| S.qu (Z.bd [0, 1] bt26 rfl rfl rfl rfl rfl rfl) <| S.s <| D.st 0 ty26 rfl rfl rfl rfl rfl rfl rfl rfl fun _ => Q.nt <| UW.ret <| S.rtR (fun hd => res_cell (k := 0) hd rfl rfl rfl st26 sz26) <| ?_
  rfl
end Go.Proofs.YtgmfgmbgmjbdhaaGreatDoor
end
section
namespace Go.Proofs.YtgmfgmbgmjbdhaaGreatDoor
open Go Go.RowKit Go.Eng
set_option linter.unusedSimpArgs false
set_option linter.unusedVariables false
set_option maxRecDepth 100000
/-- Bytes, as whole numbers. -/
def encB (i : Int) : List AV := [.v (.int .u8 i)]
def u8s (l : List Int) : AV := .sl (l.map encB)
theorem u8s_sz (l : List Int) : ∀ cs ∈ l.map encB, cs.length = 1 := by intro cs h; obtain ⟨x, _, rfl⟩ := List.mem_map.1 h; rfl
theorem u8s_get (l : List Int) (k : Nat) (h : k < l.length) : (l.map encB)[k]? = some (encB l[k]) := by rw [List.getElem?_map, List.getElem?_eq_getElem h]; rfl
def Bys (l : List Int) : Prop := ∀ b ∈ l, 0 ≤ b ∧ b < 256
def textL : List ByteArray := [⟨#[97]⟩, ⟨#[98]⟩, ⟨#[34]⟩, ⟨#[92]⟩, ⟨#[10]⟩, ⟨#[1]⟩, ⟨#[195, 169]⟩, ⟨#[226, 130, 172]⟩, ⟨#[240, 159, 152, 128]⟩, ⟨#[255]⟩, ⟨#[237, 160, 128]⟩, ⟨#[12]⟩, ⟨#[127]⟩, ⟨#[239, 191, 189]⟩, ⟨#[8]⟩, ⟨#[9]⟩]
def textN (c : List Int) : Nat → ByteArray
  | 0 => ⟨#[]⟩
  | k + 1 => textN c k ++ textL.getD ((c.getD k 0).tmod 16).toNat ⟨#[]⟩
theorem textL_le : ∀ i : Nat, (textL.getD i ⟨#[]⟩).size ≤ 4
  | 0 | 1 | 2 | 3 | 4 | 5 | 6 | 7 | 8 | 9 | 10 | 11 | 12 | 13 | 14 | 15 => by decide
  | i + 16 => by simp [textL, List.getD]; decide
theorem textN_size (c : List Int) : ∀ k, (textN c k).size ≤ 4 * k
  | 0 => Nat.zero_le _
  | k + 1 => by
    have h1 := textN_size c k
    have h2 := textL_le ((c.getD k 0).tmod 16).toNat
    show (textN c k ++ textL.getD ((c.getD k 0).tmod 16).toNat ⟨#[]⟩).size ≤ _
    rw [ByteArray.size_append]; omega
def textOf (c : List Int) : ByteArray := textN c (min c.length 40)
theorem textOf_size (c : List Int) : (textOf c).size ≤ 160 := by have := textN_size c (min c.length 40); unfold textOf; omega
theorem text_spec (c : List Int) (hc : Bys c) (H : Hp) : ACall Tryz.prog 69 [u8s c] H (IsR H (.v (.string (textOf c)))) := by
  have hml : (c.map encB).length = c.length := List.length_map ..
  refine UCall (n := 31) (H0 := H) (objs := []) Tryz.func69 (by kernel_rfl) rfl (by rw [Tryz.ntmps69]; rfl) .nil <| ?_
  refine Q.rg <| Q.as rfl <| Q.nt <| Q.rg <| S.qu (Z.bl row23 rfl rfl (lit_ok rfl)) <| Q.as rfl <| Q.nt <| Q.rg <| Q.as rfl <| Q.nt <| S.sq <| Q.rg <| Q.as rfl <| Q.nt <| UW.block <| S.loop (fun j : Nat => [(5, .v (.int .i64 (j : Int))), (4, .v (.string (textN c j))), (3, strs textL), (0, u8s c)]) (fun _ => []) (fun j => j ≤ c.length ∧ j ≤ 40) (fun j => 40 - j) 0 ⟨Nat.zero_le _, Nat.zero_le _⟩ ⟨rfl, rfl, rfl, rfl, trivial⟩ (.refl _) <| ?_
  rintro j ⟨hj, hj40⟩
  by_cases hlt : j < c.length
  · by_cases hl4 : j < 40
    · have hgl := u8s_get c j hlt
      have hb := hc _ (List.getElem_mem hlt)
      have hm0 : 0 ≤ (c[j]).tmod 16 := Int.tmod_nonneg _ hb.1
      have hm1 : (c[j]).tmod 16 < 16 := Int.tmod_lt_of_pos _ (by decide)
      have hg2 := strs_get textL ((c[j]).tmod 16).toNat (by show _ < 16; omega)
      have hs1 := textN_size c j
      have hs2 := textL_le ((c[j]).tmod 16).toNat
      have e1 : textL.getD ((c[j]).tmod 16).toNat ⟨#[]⟩ = textL[((c[j]).tmod 16).toNat]'(by show _ < 16; omega) := getD_at _
      have e2 : c.getD j 0 = c[j] := getD_at hlt
      rw [e1] at hs2
      focus
        refine S.sq <| Q.rg <| Q.mv rfl <| Q.mv rfl <| S.qu (Z.lns sl22 rfl) <| Q.bi rfl rfl rfl <| Q.mv rfl <| ?_
        refine S.tD 11 (fun hc11 => ?_) (fun hc11 => ?_)
        rotate_left
        omega
        refine Q.on (Z.mv rfl) <| Q.on (Z.bi rfl rfl rfl) <| Q.pk rfl rfl <| Q.nt <| S.cT rfl (decide_eq_true (by omega)) <| UW.skip <| UQ.then <| S.sq <| UW.block <| S.rg <| Q.mv rfl <| Q.mv rfl <| Q.mv rfl <| Q.mv rfl <| S.qu (Z.ia sl22 rfl rfl (by omega) (by assumption) (by rfl)) <| ?_
        refine S.qu (Z.lpc ty5 rfl) <| S.qu (Z.cv Tryz.underlying3 rfl (IntWalk.i64_in _ (by omega)) (by rw [Tryz.underlying5]; rfl)) <| ?_
        refine Q.mv rfl <| S.qu (Z.lns sl23 rfl) <| S.qu (Z.eq (u' := .v (.int .i64 ((c[j]).tmod 16))) (Z.bi rfl rfl rfl) rfl) <| S.qu (Z.ia sl23 rfl rfl (by omega) (by assumption) (by rfl)) <| ?_
        refine S.qu (Z.lpc ty9 rfl) <| S.qu (Z.eq (u' := .v (.string (textN c (j + 1)))) (Z.cat rfl rfl (by omega)) (by rw [← e1, ← e2]; rfl)) <| ?_
        refine Q.as rfl <| US.nil <| UQ.blockN <| UQ.then <| S.rg <| Q.mv rfl <| S.qu (Z.add (r := ((j + 1 : Nat) : Int)) rfl rfl (IntWalk.i64_in _ (by omega))) <| Q.as rfl <| US.nil <| ?_
        refine S.back _ ⟨rfl, rfl, rfl, rfl, trivial⟩ (.refl _) (by omega) (by omega)
    · focus
        refine S.sq <| Q.rg <| Q.mv rfl <| Q.mv rfl <| S.qu (Z.lns sl22 rfl) <| Q.bi rfl rfl rfl <| Q.mv rfl <| ?_
        refine S.tD 11 (fun hc11 => ?_) (fun hc11 => ?_)
        rotate_left
        omega
        refine Q.on (Z.mv rfl) <| Q.on (Z.bi rfl rfl rfl) <| Q.pk rfl rfl <| Q.nt <| S.cF rfl (decide_eq_false (by omega)) <| UW.exit <| UQ.pass <| UQ.pass <| UQ.here <| UQ.then <| Q.rg <| Q.mv rfl <| Q.as rfl <| Q.nt <| UW.ret <| S.rtR (fun _ => res_tmp rfl rfl) <| ?_
        focus (rw [show textOf c = textN c j from by unfold textOf; congr 1; omega]; done)
  · refine S.sq <| Q.rg <| Q.mv rfl <| Q.mv rfl <| S.qu (Z.lns sl22 rfl) <| Q.bi rfl rfl rfl <| Q.mv rfl <| ?_
    refine S.tD 11 (fun hc11 => ?_) (fun hc11 => ?_)
    omega
    refine Q.of <| Q.of <| Q.pk rfl rfl <| Q.nt <| S.cF rfl rfl <| UW.exit <| UQ.pass <| UQ.pass <| UQ.here <| UQ.then <| Q.rg <| Q.mv rfl <| Q.as rfl <| Q.nt <| UW.ret <| S.rtR (fun _ => res_tmp rfl rfl) <| ?_
    focus (rw [show textOf c = textN c j from by unfold textOf; congr 1; omega]; done)
end Go.Proofs.YtgmfgmbgmjbdhaaGreatDoor
end
section
set_option linter.unusedVariables false
namespace Go.Eng
open Go Go.RowKit Go.ChangeShapes Go.WideShapes Go.ChangeAt
section
variable {H : Type} {enc : TypeId × Value → H} {P : Program}
/-- What the form asks behind a call that turned nothing of what was there. -/
theorem post_below {f : Func} {s : ChangeSpec} {apart fresh handsOn again : Bool} {W W' : World} {args : Array Value} {v : Value} {ds gs : List (DataW H)} {before pa pv : List MemPlace}
    (hW : DataW.Whole enc P f.params.toList s.vars apart W args.toList ds gs before)
    (hres : ∀ (b : Nat) (sp : Nat → Bool) (hd : Bool), DataW.TrodAll enc P W' b sp hd f.resultTypes.toList (v.resultList f.resultTypes.size) (s.fn H (ds ++ gs)).results [])
    (hargs : ∀ sp : Nat → Bool, (∀ p ∈ before, sp p.block = true) → DataW.TrodAll enc P W' 0 sp true f.params.toList args.toList (s.fn H (ds ++ gs)).args pa)
    (hvars : ∀ sp : Nat → Bool, (∀ p ∈ before, sp p.block = true) → DataW.TrodVars enc P W' sp s.vars (s.fn H (ds ++ gs)).vars pv)
    (hps : before = pa ++ pv) (hb : Below W.heap.size W W')
    (hok : ∀ (j : Nat) (t : TypeId) (r : Value), f.resultTypes[j]? = some t → (v.resultList f.resultTypes.size)[j]? = some r → Value.okWide P W' .any 0 t r) :
    s.post enc P f apart fresh handsOn again W args v W' := by
  have hold : ∀ p ∈ before, (fun b => decide (b < W.heap.size)) p.block = true := fun p hp => by simpa using hW.lt p hp
  refine ⟨ds, gs, before, [], pa, pv, hW, hres _ _ _, hargs _ hold, hvars _ hold, hb.frame _, fun _ => ?_⟩
  have hlt := hW.lt
  obtain ⟨_, _, _, _, _, hz, hn⟩ := hW
  refine ⟨hok, _, _, ([] ++ pa) ++ pv, ⟨[] ++ pa, pv, trodAll_append (hargs _ (fun _ _ => rfl)) (hres _ _ _), hvars _ (fun _ _ => rfl), rfl, ?_, ?_⟩, ?_⟩
  · intro b off hp
    have hp' : MemPlace.cell b off ∈ before := by rw [hps]; simpa using hp
    rw [hb.frozen (hlt _ hp')]
    exact hz b off hp'
  · intro ha
    have := hn ha
    rw [hps] at this
    simpa using this
  · intro p hp _
    rw [hps]
    simpa using hp
end
/-- At a call from outside nothing is owned. -/
def noRho : Rho := fun _ => none
def noHp : Hp := fun _ => none
theorem own_none (k : Nat) : ¬ Own noRho noHp k := by rintro ⟨_, _, _, h, _⟩; cases h
theorem ok_all (k : Nat) : okOf noRho noHp k := own_none k
end Go.Eng
end
section
namespace Go.Proofs.YtgmfgmbgmjbdhaaGreatDoor
open Go Go.ChangeShapes Go.WideShapes Go.ChangeAt Go.RowKit Go.Eng
set_option maxRecDepth 100000
set_option linter.unusedVariables false
theorem rep_u8s {W : World} {a : Addr} {len cap : Nat} {zs : List Int} (hl : len ≤ zs.length) (hc : len ≤ cap) (hm : cap ≤ maxLen) (h : ∀ i, i < zs.length → W.cell? (a.add i) = some (.int .u8 (zs.getD i 0))) :
    Rep (okOf noRho noHp) noRho W (u8s (zs.take len)) (.slice (some a) len cap) := by
  have e : ((zs.take len).map encB).length = len := by rw [List.length_map, List.length_take]; omega
  have hr := Rep.sl (ok := okOf noRho noHp) (ρ := noRho) (w := W) ((zs.take len).map encB) a cap 1 (fun i _ => .int .u8 (zs.getD i 0)) (by rw [e]; exact hc) hm (fun hn => ⟨ok_all _, by
      have h0 : 0 < zs.length := by
        cases hs : zs with
        | nil => rw [hs] at hn; simp at hn
        | cons x r => simp
      have := h 0 h0
      simp only [World.cell?, add_block] at this
      rcases Nat.lt_or_ge a.block W.heap.size with h' | h'
      · exact h'
      · simp [Array.getElem?_eq_none h'] at this⟩) (u8s_sz _) (fun i cs j hi hj => by
      have hi2 : i < len := by rw [← e]; exact (List.getElem?_eq_some_iff.1 hi).1
      have hcs : cs.length = 1 := u8s_sz _ cs (List.mem_of_getElem? hi)
      have hj0 : j = 0 := by omega
      subst hj0
      simp only [Nat.mul_one, Nat.add_zero]
      exact ⟨h i (by omega), rfl⟩) (fun i cs j u hi hj => by
      have hi2 : i < len := by rw [← e]; exact (List.getElem?_eq_some_iff.1 hi).1
      have hil : i < zs.length := by omega
      rw [List.getElem?_map, List.getElem?_take, if_pos hi2, List.getElem?_eq_getElem hil] at hi
      cases hi
      match j with
      | 0 =>
        cases hj
        have : zs.getD i 0 = zs[i] := by simp [List.getD, hil]
        rw [this]
        exact .v _
      | j + 1 => simp [encB] at hj)
  rw [e] at hr
  exact hr
theorem open_u8s {H : Type} {enc : TypeId × Value → H} {P : Program} {W : World} {base : Nat} {spare : Nat → Bool} {held : Bool} {t e : TypeId} {v : Value} {d : DataW H} {ps : List MemPlace} {fuel : Nat} (ht : P.underlying t = some (.slice e)) (he : P.underlying e = some (.int .u8)) (hc : P.cellsOf e = 1)
    (hv : ∃ a len cap, v = .slice a len cap) (h : DataW.trod enc P W base spare held fuel t v.cells.toList = some (d, ps)) : ∃ c, Rep (okOf noRho noHp) noRho W (u8s c) v ∧ Bys c := by
  obtain ⟨a0, len0, cap0, rfl⟩ := hv
  rcases open_ints ht he hc h with ⟨hcs, hx⟩ | ⟨a, len, cap, zs, hcs, _, hl, hm, hz, hx, hcell, hwf⟩
  · obtain ⟨rfl, rfl, rfl⟩ : a0 = none ∧ len0 = 0 ∧ cap0 = 0 := by simpa [Value.cells] using hcs
    exact ⟨[], .nil, by intro b hb; cases hb⟩
  · obtain ⟨rfl, rfl, rfl⟩ : a0 = some a ∧ len0 = len ∧ cap0 = cap := by simpa [Value.cells] using hcs
    have hl2 : len0 ≤ zs.length := by rw [hz]; split <;> omega
    refine ⟨zs.take len0, rep_u8s hl2 hl hm hcell, fun b hb => ?_⟩
    have := hwf b (List.mem_of_mem_take hb)
    simp only [Lit.wf, Bool.and_eq_true, decide_eq_true_eq] at this
    exact ⟨this.1, Int.lt_of_le_of_lt this.2 (by decide)⟩
end Go.Proofs.YtgmfgmbgmjbdhaaGreatDoor
end
