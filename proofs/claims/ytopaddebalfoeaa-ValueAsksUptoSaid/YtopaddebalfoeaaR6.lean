/- The document's answers of layer 2: what they compute: With, Str, Num, Texts. -/
import Derived.Test.YtopaddebalfoeaaR5
namespace Go.Proofs.Ytopaddebalfoeaa
open Go Go.RowKit Go.Eng
set_option linter.unusedSimpArgs false
set_option linter.unusedVariables false
set_option maxRecDepth 100000
theorem bytes_ext {a b : ByteArray} (h : a.toList = b.toList) : a = b := by
  rw [Lib.toList_data, Lib.toList_data] at h
  exact ByteArray.ext (Array.toList_inj.1 h)
theorem keyIdx_eq {l : List ByteArray} {s : ByteArray} {i : Nat} (h : keyIdx l s = some i) : l[i]? = some s := by
  unfold keyIdx at h
  obtain ⟨h1, h2, _⟩ := List.findIdx?_eq_some_iff_getElem.1 h
  rw [List.getElem?_eq_getElem h1]
  congr 1
  exact (bytes_ext (by simpa using h2)).symm
theorem pl_key {x : V} {key : ByteArray} {i : Nat} (h : pl x key = some i) : x.ks[i]? = some key := by
  unfold pl at h
  split at h
  · cases hi : keyIdx x.ks key with
    | none => rw [hi] at h; simp at h
    | some j =>
      rw [hi] at h
      simp only at h
      split at h
      · cases h; exact keyIdx_eq hi
      · cases h
  · cases h
theorem take_put {α : Type} (l : List α) (m i : Nat) (a : α) (hi : i < m) (h : l[i]? = some a) : l.take i ++ [a] ++ (l.take m).drop (i + 1) = l.take m := by
  have hl := (List.getElem?_eq_some_iff.1 h).1
  have hlm : i < (l.take m).length := by rw [List.length_take]; omega
  have e1 : (l.take m)[i] = a := by
    have : (l.take m)[i]? = some a := by rw [List.getElem?_take, if_pos hi]; exact h
    rw [List.getElem?_eq_getElem hlm] at this
    exact Option.some.inj this
  have e2 : l.take i = (l.take m).take i := by rw [List.take_take, Nat.min_eq_left (by omega)]
  rw [e2, List.append_assoc, List.singleton_append, ← e1, ← List.drop_eq_getElem_cons hlm, List.take_append_drop]
theorem take_set {α : Type} (l : List α) (m i : Nat) (a : α) (hi : i < m) (hl : i < l.length) : l.take i ++ [a] ++ (l.take m).drop (i + 1) = (l.take m).set i a := by
  have hlm : i < (l.take m).length := by rw [List.length_take]; omega
  rw [List.set_eq_take_append_cons_drop, if_pos hlm, List.take_take, Nat.min_eq_left (by omega)]
  simp
theorem take_ins {α : Type} (l : List α) (m i : Nat) (a : α) (hi : i ≤ m) : l.take i ++ [a] ++ (l.take m).drop (i + 0) = insAt (l.take m) i a := by
  unfold insAt
  rw [List.take_take, Nat.min_eq_left hi]; simp
theorem insAtPos_eq {ks : List ByteArray} {key : ByteArray} {i : Nat} (h1 : i ≤ ks.length) (h2 : ∀ j (h : j < ks.length), j < i → lessB ks[j] key = true) (h3 : ∀ h : i < ks.length, lessB ks[i] key = false) : insAtPos ks key = i := by
  unfold insAtPos insPos
  by_cases hi : i < ks.length
  · rw [(List.findIdx?_eq_some_iff_getElem).2 ⟨hi, by simp [h3 hi], fun j hj => by simp [h2 j (by omega) hj]⟩]
    show (if (i : Int) < 0 then _ else (i : Int).toNat) = i
    rw [if_neg (by omega)]; rfl
  · rw [(List.findIdx?_eq_none_iff).2 (fun x hx => by
      obtain ⟨j, hj, rfl⟩ := List.getElem_of_mem hx
      simp [h2 j hj (by omega)])]
    show (if (-1 : Int) < 0 then _ else _) = i
    rw [if_pos (by omega)]; omega
theorem with_put {x : V} {key : ByteArray} {y : V} {i : Nat} (h : pl x key = some i) : wiR x i 1 [key] [y] = withV x key y := by
  have h1 := pl_min h
  have h2 := pl_lt h
  have e1 : objV x = x := by unfold objV; rw [if_pos h2.2.2]
  unfold withV wiR
  rw [e1, h]
  simp only [cutV, vks, vvs]
  rw [take_put _ _ _ _ (by omega) (pl_key h), take_set _ _ _ _ (by omega) h2.1, h2.2.2]
theorem with_ins {x : V} {key : ByteArray} {y : V} {i : Nat} (hk : x.k = 5) (h : pl x key = none) (hi : i ≤ min x.ks.length x.vs.length) (h2 : ∀ j (h : j < x.ks.length), j < i → lessB x.ks[j] key = true) (h3 : ∀ h : i < x.ks.length, i < min x.ks.length x.vs.length → lessB x.ks[i] key = false) : wiR x i 0 [key] [y] = withV x key y := by
  have e1 : objV x = x := by unfold objV; rw [if_pos hk]
  have e2 : insAtPos (x.ks.take (min x.ks.length x.vs.length)) key = i := insAtPos_eq (by rw [List.length_take]; omega) (fun j hj hji => by rw [List.getElem_take]; exact h2 j _ hji) (fun hh => by rw [List.getElem_take]; exact h3 _ (by rw [List.length_take] at hh; omega))
  unfold withV wiR
  rw [e1, h]
  simp only [cutV, vks, vvs]
  rw [e2, take_ins _ _ _ _ (by omega), take_ins _ _ _ _ (by omega), hk]
theorem withR_spec (x : V) (hx : Fits x) (hks : ∀ s ∈ x.ks, s.size ≤ 4000000) (key : ByteArray) (y : V) (H : Hp) : ACall Try.prog 61 [.agg (encV x), .v (.string key), .agg (encV y)] H (IsR H (.agg (encV (withV x key y)))) := by
  by_cases hk : x.k = 5
  · cases hp : pl x key with
    | some i =>
      rw [← with_put hp]
      have hmin := pl_min hp
      obtain ⟨k, n, t, ks, vs⟩ := x
      simp only [V.k] at hk
      refine UCall (n := 58) (H0 := H) (objs := []) Try.func61 (by kernel_rfl) rfl (by rw [Try.ntmps61]; rfl) .nil <| ?_
      refine Q.rg <| S.dd <| D.box rfl rfl rfl fun p3 => S.dd <| D.box rfl rfl (by exact encV_cell _) fun p5 => ?_
      refine S.dd <| D.al z27 rfl rfl rfl fun p6 => Q.nt <| S.sq <| Q.rg <| Q.fa f27_0 rfl <| Q.lc 2 ty3 rfl rfl rfl <| Q.bi rfl rfl rfl <| Q.nt <| S.cF rfl (bne_f (by omega)) <| UW.skip <| UQ.then <| Q.rg <| S.qu (Z.ldw 2 ty27 rfl rfl rfl) <| Q.mv rfl <| S.qu (Z.call rfl rfl (fun _ => placeR_at hx hp _)) <| Q.as rfl <| Q.nt <| S.sq <| Q.rg <| Q.mv rfl <| Q.bi rfl rfl rfl <| Q.nt <| S.cT rfl (decide_eq_true (by omega)) <| Q.rg <| S.qu (Z.ldw 2 ty27 rfl rfl rfl) <| Q.mv rfl <| Q.mv rfl <| S.qu (Z.bl row24 rfl rfl (lit_ok rfl)) <| S.qu (Z.ldw 1 ty27 rfl rfl (encV_len _)) <| S.qu (Z.bl row25 rfl rfl (by intro cs h; cases List.mem_singleton.1 h; exact ⟨by exact encV_cell _, by exact encV_len _⟩)) <| ?_
      refine S.qu (Z.call rfl rfl (fun _ => withR_in (.mk k n t ks vs) hx i 1 [key] [y] hmin (by simp) (by simp) _)) <| ?_
      refine S.s <| D.st 0 ty27 rfl rfl rfl rfl rfl rfl rfl rfl fun _ => Q.nt <| UW.ret <| UQ.passR <| S.rtR (fun hd => res_cell (k := 0) hd rfl rfl rfl st27 sz27) <| ?_
      rfl
    | none =>
      obtain ⟨k, n, t, ks, vs⟩ := x
      simp only [V.k] at hk
      simp only [vks] at hks
      have hml : (ks.map encS).length = ks.length := List.length_map ..
      have hvl := encVs_len vs
      have hkl0 := hx.ksl
      have hvl0 := hx.vsl
      simp only [V.ks, V.vs] at hkl0 hvl0
      refine UCall (n := 58) (H0 := H) (objs := []) Try.func61 (by kernel_rfl) rfl (by rw [Try.ntmps61]; rfl) .nil <| ?_
      refine Q.rg <| S.dd <| D.box rfl rfl rfl fun p3 => S.dd <| D.box rfl rfl (by exact encV_cell _) fun p5 => ?_
      refine S.dd <| D.al z27 rfl rfl rfl fun p6 => Q.nt <| S.sq <| Q.rg <| Q.fa f27_0 rfl <| Q.lc 2 ty3 rfl rfl rfl <| Q.bi rfl rfl rfl <| Q.nt <| S.cF rfl (bne_f (by omega)) <| UW.skip <| UQ.then <| Q.rg <| S.qu (Z.ldw 2 ty27 rfl rfl rfl) <| Q.mv rfl <| S.qu (Z.call rfl rfl (fun _ => placeR_no hx hp _)) <| Q.as rfl <| Q.nt <| S.sq <| Q.rg <| Q.mv rfl <| Q.bi rfl rfl rfl <| Q.nt <| S.cF rfl (decide_eq_false (by omega)) <| UW.skip <| UQ.then <| Q.rg <| Q.as rfl <| Q.nt <| Q.rg <| Q.fa f27_3 rfl <| Q.lc 2 ty24 rfl rfl rfl <| S.qu (Z.lns sl24 rfl) <| Q.fa f27_4 rfl <| Q.lc 2 ty25 rfl rfl rfl <| S.qu (Z.lns sl25 rfl) <| ?_
      refine S.qu (Z.eq (u' := .v (.int .i64 ((min ks.length vs.length : Nat) : Int))) (Z.min rfl rfl) (by rw [hml, hvl]; congr 2; split <;> omega)) ?_
      refine Q.as rfl <| Q.nt <| S.sq <| UW.block <| S.loop (fun j : Nat => [(8, .v (.int .i64 (j : Int))), (9, .v (.int .i64 ((min ks.length vs.length : Nat) : Int))), (1, .v (.string key)), (3, .ptr p3 0), (5, .ptr p5 0), (6, .ptr p6 0)]) (fun _ => [(p6, .box 27 (encV zeroV)), (p5, .box 27 (encV y)), (p3, .box 27 (encV (.mk k n t ks vs)))]) (fun j => j ≤ min ks.length vs.length ∧ ∀ i (h : i < ks.length), i < j → lessB ks[i] key = true) (fun j => min ks.length vs.length - j) 0 ⟨Nat.zero_le _, fun i _ h => absurd h (by omega)⟩ ⟨rfl, rfl, rfl, rfl, rfl, rfl, trivial⟩ (.refl _) <| ?_
      rintro j ⟨hj, hjj⟩
      by_cases hlt : j < min ks.length vs.length
      · have hgl := strs_get ks j (by omega)
        have hsz := hks _ (List.getElem_mem (by omega : j < ks.length))
        cases hL : lessB (ks[j]'(by omega)) key with
        | true =>
          focus
            refine S.sq <| Q.rg <| Q.mv rfl <| Q.mv rfl <| Q.bi rfl rfl rfl <| Q.mv rfl <| ?_
            refine S.tD 40 (fun hc40 => ?_) (fun hc40 => ?_)
            rotate_left
            omega
            refine Q.on (Z.fa f27_3 rfl) <| Q.on (Z.ldc 2 ty24 rfl rfl rfl) <| Q.on (Z.mv rfl) <| Q.on (Z.ia sl24 rfl rfl (by omega) (by assumption) (by rfl)) <| ?_
            refine Q.on (Z.lpc ty9 rfl) <| Q.on (Z.mv rfl) <| Q.on (Z.eq (Z.call rfl rfl (fun _ => lessR_spec _ _ hsz _)) (by rw [hL])) <| ?_
            refine Q.pk rfl rfl <| Q.nt <| S.cT rfl rfl <| UW.skip <| UQ.then <| UW.block <| S.rg <| Q.mv rfl <| S.qu (Z.add (r := ((j + 1 : Nat) : Int)) rfl rfl (IntWalk.i64_in _ (by omega))) <| Q.as rfl <| US.nil <| UQ.blockN <| ?_
            refine S.back _ ⟨rfl, rfl, rfl, rfl, rfl, rfl, trivial⟩ (.refl _) ?_ (by omega)
          refine ⟨by omega, fun i h3 h4 => ?_⟩
          by_cases hij : i = j
          · subst hij; exact hL
          · exact hjj i h3 (by omega)
        | false =>
          rw [← with_ins (x := .mk k n t ks vs) (i := j) hk hp (by simp only [vks, vvs]; omega) hjj (fun _ _ => hL)]
          focus
            refine S.sq <| Q.rg <| Q.mv rfl <| Q.mv rfl <| Q.bi rfl rfl rfl <| Q.mv rfl <| ?_
            refine S.tD 40 (fun hc40 => ?_) (fun hc40 => ?_)
            rotate_left
            omega
            refine Q.on (Z.fa f27_3 rfl) <| Q.on (Z.ldc 2 ty24 rfl rfl rfl) <| Q.on (Z.mv rfl) <| Q.on (Z.ia sl24 rfl rfl (by omega) (by assumption) (by rfl)) <| ?_
            refine Q.on (Z.lpc ty9 rfl) <| Q.on (Z.mv rfl) <| Q.on (Z.eq (Z.call rfl rfl (fun _ => lessR_spec _ _ hsz _)) (by rw [hL])) <| ?_
            refine Q.pk rfl rfl <| Q.nt <| S.cF rfl rfl <| UW.exit <| UQ.pass <| UQ.pass <| UQ.here <| UQ.then <| Q.rg <| S.qu (Z.ldw 2 ty27 rfl rfl rfl) <| Q.mv rfl <| Q.mv rfl <| S.qu (Z.bl row24 rfl rfl (lit_ok rfl)) <| S.qu (Z.ldw 1 ty27 rfl rfl (encV_len _)) <| S.qu (Z.bl row25 rfl rfl (by intro cs h; cases List.mem_singleton.1 h; exact ⟨by exact encV_cell _, by exact encV_len _⟩)) <| ?_
            refine S.qu (Z.call rfl rfl (fun _ => withR_in (.mk k n t ks vs) hx j 0 [key] [y] (by simp only [vks, vvs]; omega) (by simp) (by simp) _)) <| ?_
            refine S.s <| D.st 0 ty27 rfl rfl rfl rfl rfl rfl rfl rfl fun _ => Q.nt <| UW.ret <| S.rtR (fun hd => res_cell (k := 0) hd rfl rfl rfl st27 sz27) <| ?_
            rfl
      · rw [← with_ins (x := .mk k n t ks vs) (i := j) hk hp (by simp only [vks, vvs]; omega) hjj (fun _ h => absurd h hlt)]
        refine S.sq <| Q.rg <| Q.mv rfl <| Q.mv rfl <| Q.bi rfl rfl rfl <| Q.mv rfl <| ?_
        refine S.tD 40 (fun hc40 => ?_) (fun hc40 => ?_)
        omega
        refine Q.of <| Q.of <| Q.of <| Q.of <| Q.of <| Q.of <| Q.of <| Q.pk rfl rfl <| Q.nt <| S.cF rfl rfl <| UW.exit <| UQ.pass <| UQ.pass <| UQ.here <| UQ.then <| Q.rg <| S.qu (Z.ldw 2 ty27 rfl rfl rfl) <| Q.mv rfl <| Q.mv rfl <| S.qu (Z.bl row24 rfl rfl (lit_ok rfl)) <| S.qu (Z.ldw 1 ty27 rfl rfl (encV_len _)) <| S.qu (Z.bl row25 rfl rfl (by intro cs h; cases List.mem_singleton.1 h; exact ⟨by exact encV_cell _, by exact encV_len _⟩)) <| ?_
        refine S.qu (Z.call rfl rfl (fun _ => withR_in (.mk k n t ks vs) hx j 0 [key] [y] (by simp only [vks, vvs]; omega) (by simp) (by simp) _)) <| ?_
        refine S.s <| D.st 0 ty27 rfl rfl rfl rfl rfl rfl rfl rfl fun _ => Q.nt <| UW.ret <| S.rtR (fun hd => res_cell (k := 0) hd rfl rfl rfl st27 sz27) <| ?_
        rfl
  · have e1 : objV x = .mk 5 0 ⟨#[]⟩ [] [] := by unfold objV; rw [if_neg hk]
    have e2 : withV x key y = .mk 5 0 ⟨#[]⟩ [key] [y] := by unfold withV; rw [e1]; rfl
    rw [e2]
    obtain ⟨k, n, t, ks, vs⟩ := x
    simp only [V.k] at hk
    refine UCall (n := 58) (H0 := H) (objs := []) Try.func61 (by kernel_rfl) rfl (by rw [Try.ntmps61]; rfl) .nil <| ?_
    refine Q.rg <| S.dd <| D.box rfl rfl rfl fun p3 => S.dd <| D.box rfl rfl (by exact encV_cell _) fun p5 => ?_
    refine S.dd <| D.al z27 rfl rfl rfl fun p6 => Q.nt <| S.sq <| Q.rg <| Q.fa f27_0 rfl <| Q.lc 2 ty3 rfl rfl rfl <| Q.bi rfl rfl rfl <| Q.nt <| S.cT rfl (bne_t (by omega)) <| Q.rg <| Q.mv rfl <| S.qu (Z.bl row24 rfl rfl (lit_ok rfl)) <| S.qu (Z.ldw 1 ty27 rfl rfl (encV_len _)) <| S.qu (Z.bl row25 rfl rfl (by intro cs h; cases List.mem_singleton.1 h; exact ⟨by exact encV_cell _, by exact encV_len _⟩)) <| ?_
    refine S.qu (Z.bd [0, 3, 4] bt27 rfl rfl rfl rfl rfl rfl) <| S.s <| D.st 0 ty27 rfl rfl rfl rfl rfl rfl rfl rfl fun _ => Q.nt <| UW.ret <| UQ.passR <| S.rtR (fun hd => res_cell (k := 0) hd rfl rfl rfl st27 sz27) <| ?_
    rfl
theorem strR_spec (s : ByteArray) (H : Hp) : ACall Try.prog 28 [.v (.string s)] H (IsR H (.agg (encV (strV s)))) := by
  refine UCall (n := 5) (H0 := H) (objs := []) Try.func28 (by kernel_rfl) rfl (by rw [Try.ntmps28]; rfl) .nil <| ?_
  refine Q.rg <| S.dd <| D.al z27 rfl rfl rfl fun p2 => Q.nt <| Q.rg <| Q.mv rfl <| S.qu (Z.bd [0, 2] bt27 rfl rfl rfl rfl rfl rfl) <| S.s <| D.st 0 ty27 rfl rfl rfl rfl rfl rfl rfl rfl fun _ => Q.nt <| UW.ret <| S.rtR (fun hd => res_cell (k := 0) hd rfl rfl rfl st27 sz27) <| ?_
  rfl
theorem numR_spec (n : Int) (H : Hp) : ACall Try.prog 29 [.v (.int .i64 n)] H (IsR H (.agg (encV (numV n)))) := by
  refine UCall (n := 5) (H0 := H) (objs := []) Try.func29 (by kernel_rfl) rfl (by rw [Try.ntmps29]; rfl) .nil <| ?_
  refine Q.rg <| S.dd <| D.al z27 rfl rfl rfl fun p2 => Q.nt <| Q.rg <| Q.mv rfl <| S.qu (Z.bd [0, 1] bt27 rfl rfl rfl rfl rfl rfl) <| S.s <| D.st 0 ty27 rfl rfl rfl rfl rfl rfl rfl rfl fun _ => Q.nt <| UW.ret <| S.rtR (fun hd => res_cell (k := 0) hd rfl rfl rfl st27 sz27) <| ?_
  rfl
end Go.Proofs.Ytopaddebalfoeaa
