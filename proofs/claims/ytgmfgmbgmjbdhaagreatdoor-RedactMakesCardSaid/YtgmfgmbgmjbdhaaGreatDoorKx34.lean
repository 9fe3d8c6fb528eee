/- Samples: a value's part: what it is. · Objects with sorted keys: the plain laws. · Which keys of a content stay: the program's and the document's. -/
import Derived.Test.YtgmfgmbgmjbdhaaGreatDoorKx33
import Derived.Test.YtgmfgmbgmjbdhaaGreatDoorKx32
import Derived.Test.YtgmfgmbgmjbdhaaGreatDoorKx21
import Derived.Test.YtgmfgmbgmjbdhaaGreatDoorKx14
section
namespace Go.Proofs.YtgmfgmbgmjbdhaaGreatDoor
open Go Go.RowKit Go.Eng
set_option linter.unusedSimpArgs false
set_option linter.unusedVariables false
set_option maxRecDepth 100000
/-- A value of few levels, whose texts and lists are not too long. -/
def Good (d : Int) (x : V) : Prop := Fits x ∧ Tx x ∧ deepV x ≤ d
theorem deep_step {k n : Int} {t : ByteArray} {ks : List ByteArray} {vs : List V} {d : Int} (hd : 0 ≤ d) (h : ∀ v ∈ vs, deepV v ≤ d) : deepV (.mk k n t ks vs) ≤ d + 1 := by
  rw [deepV]
  split
  · rw [deepsV_eq, maxL_zero _ (fun c hc => by obtain ⟨x, _, rfl⟩ := List.mem_map.1 hc; exact deepV_nonneg x)]
    have := foldmax_le (r := vs.map deepV) (a := d) (b := 0) hd (fun c hc => by obtain ⟨x, hx, rfl⟩ := List.mem_map.1 hc; exact h x hx)
    omega
  · omega
theorem good_mk {k n : Int} {t : ByteArray} {ks : List ByteArray} {vs : List V} {d : Int} (hd : 0 ≤ d) (h1 : ks.length ≤ 1000000) (h2 : vs.length ≤ 1000000) (h3 : t.size ≤ 4000000) (h4 : ∀ s ∈ ks, s.size ≤ 4000000) (h : ∀ v ∈ vs, Good d v) : Good (d + 1) (.mk k n t ks vs) :=
  ⟨.mk _ _ _ _ _ h1 h2 fun x hx => (h x hx).1, .mk _ _ _ _ _ h3 h4 fun x hx => (h x hx).2.1, deep_step hd fun v hv => (h v hv).2.2⟩
theorem Good.up {d d' : Int} {x : V} (h : Good d x) (hd : d ≤ d') : Good d' x := ⟨h.1, h.2.1, by have := h.2.2; omega⟩
theorem good_leaf {k n : Int} {t : ByteArray} {d : Int} (hd : 0 ≤ d) (h3 : t.size ≤ 4000000) (hk : k < 4) : Good d (.mk k n t [] []) :=
  ⟨.mk _ _ _ _ _ (by simp) (by simp) (by simp), .mk _ _ _ _ _ h3 (by simp) (by simp), by rw [deepV, if_neg (by omega)]; exact hd⟩
theorem good_zero {d : Int} (hd : 0 ≤ d) : Good d zeroV := good_leaf hd (by decide) (by decide)
theorem good_of {x : V} {d : Int} (hd : 0 ≤ d) (h1 : x.ks.length ≤ 1000000) (h2 : x.vs.length ≤ 1000000) (h3 : x.t.size ≤ 4000000) (h4 : ∀ s ∈ x.ks, s.size ≤ 4000000) (h : ∀ v ∈ x.vs, Good d v) : Good (d + 1) x := by
  obtain ⟨k, n, t, ks, vs⟩ := x
  exact good_mk hd h1 h2 h3 h4 h
theorem withV_t (x : V) (key : ByteArray) (y : V) : (withV x key y).t = (objV x).t := by unfold withV; split <;> rfl
theorem objF_t (b1 : Int) (kids : List V) : ∀ q, (objF b1 kids q).t = ⟨#[]⟩
  | 0 => rfl
  | q + 1 => by
    show (withV _ _ _).t = _
    rw [withV_t]
    unfold objV
    split
    · exact objF_t b1 kids q
    · rfl
theorem objF_vals (b1 : Int) (kids : List V) (d : Int) (hd : 0 ≤ d) (hk : ∀ x ∈ kids, Good d x) : ∀ q, ∀ v ∈ (objF b1 kids q).vs, Good d v
  | 0 => by intro v h; cases h
  | q + 1 => by
    intro v hv
    rcases withV_vals hv with h | h
    · have e : objV (objF b1 kids q) = objF b1 kids q ∨ objV (objF b1 kids q) = .mk 5 0 ⟨#[]⟩ [] [] := by unfold objV; split; exact .inl rfl; exact .inr rfl
      rcases e with e | e
      · rw [e] at h; exact objF_vals b1 kids d hd hk q v h
      · rw [e] at h; cases h
    · subst h
      by_cases hi : q < kids.length
      · exact hk _ (getD_mem hi)
      · simp only [List.getD, List.getElem?_eq_none (Nat.le_of_not_lt hi)]; exact good_zero hd
theorem swV_good (b0 b1 : Int) (t : ByteArray) (l : List V) (d : Int) (hd : 0 ≤ d) (ht : t.size ≤ 4000000) (hl : l.length ≤ 1000) (h : ∀ x ∈ l, Good d x) : Good (d + 1) (swV b0 b1 t l).2 := by
  have hk : ∀ x ∈ kidsV b1 l, Good d x := fun x hx => h x (List.mem_of_mem_drop hx)
  have hkl : (kidsV b1 l).length ≤ l.length := by unfold kidsV; rw [List.length_drop]; omega
  unfold swV
  repeat' split
  · exact good_leaf (by omega) (by decide) (by decide)
  · exact good_leaf (by omega) (by decide) (by decide)
  · exact good_leaf (by omega) (by decide) (by decide)
  · exact good_leaf (by omega) (by decide) (by decide)
  · exact good_leaf (by omega) ht (by decide)
  · exact good_mk hd (by simp) (by omega) (by decide) (by simp) hk
  · obtain ⟨_, h1, h2, h3, _⟩ := objF_ok b1 (kidsV b1 l) (fun x hx => (hk x hx).1) (kidsV b1 l).length
    show Good (d + 1) (objF b1 (kidsV b1 l) (kidsV b1 l).length)
    exact good_of hd (by omega) (by omega) (by rw [objF_t]; decide) h3 (objF_vals b1 _ d hd hk _)
  · exact good_zero (by omega)
theorem valL_good (c : List Int) : ∀ n, n ≤ 100 → ∀ x ∈ valL c n, Good (n : Int) x
  | 0, _ => by intro x h; cases h
  | n + 1, hn => by
    obtain ⟨h1, _⟩ := valL_ok c n (by omega)
    have ih := valL_good c n (by omega)
    intro x hx
    rcases List.mem_append.1 hx with h | h
    · exact (ih x (List.mem_of_mem_take h)).up (by omega)
    · rw [List.mem_singleton.1 h]
      exact swV_good _ _ _ _ n (by omega) (Nat.le_trans (textOf_size _) (by decide)) (by omega) ih
theorem valOf_good (c : List Int) : Good 31 (valOf c) := by
  obtain ⟨h1, _⟩ := valL_ok c (min (c.length / 2) 30) (by omega)
  have h2 := valL_good c (min (c.length / 2) 30) (by omega)
  exact (good_mk (d := ((min (c.length / 2) 30 : Nat) : Int)) (by omega) (by simp) (by omega) (by decide) (by simp) h2).up (by omega)
theorem right_vals {k n : Int} {t : ByteArray} {ks : List ByteArray} {vs : List V} (h : rightV (.mk k n t ks vs) = true) : ∀ v ∈ vs, rightV v = true := by
  intro v hv
  obtain ⟨j, hj, rfl⟩ := List.getElem_of_mem hv
  cases hr : rightV vs[j] with
  | true => rfl
  | false => rw [right_no5 (rightsV_at hj hr)] at h; cases h
theorem right_zero : rightV zeroV = true := by kernel_rfl
/-- The part of a value that the samples take. -/
def partV (c : List Int) (b : Int) : V :=
  if (valOf c).vs.length = 0 ∨ rightV (valOf c) = false then zeroV else (valOf c).vs.getD (b.tmod ((valOf c).vs.length : Int)).toNat zeroV
theorem partV_mem (c : List Int) (b : Int) (hb : 0 ≤ b) : partV c b = zeroV ∨ (partV c b ∈ (valOf c).vs ∧ rightV (valOf c) = true) := by
  unfold partV
  split
  · exact .inl rfl
  · rename_i h
    rw [not_or] at h
    refine .inr ⟨getD_mem ?_, by simpa using h.2⟩
    have h1 := Int.tmod_nonneg ((valOf c).vs.length : Int) hb
    have h2 := Int.tmod_lt_of_pos b (by omega : (0 : Int) < ((valOf c).vs.length : Int))
    omega
theorem partV_good (c : List Int) (b : Int) (hb : 0 ≤ b) : Good 30 (partV c b) := by
  rcases partV_mem c b hb with h | ⟨h, _⟩
  · rw [h]; exact good_zero (by decide)
  · exact (valL_good c _ (by omega) _ h).up (by omega)
theorem partV_right (c : List Int) (b : Int) (hb : 0 ≤ b) : rightV (partV c b) = true := by
  rcases partV_mem c b hb with h | ⟨h, h2⟩
  · rw [h]; exact right_zero
  · exact right_vals h2 _ h
theorem part_spec (c : List Int) (hc : Bys c) (b : Int) (hb0 : 0 ≤ b) (hb1 : b < 256) (H : Hp) : ACall Tryz.prog 12 [u8s c, .v (.int .u8 b)] H (IsR H (.agg (encV (partV c b)))) := by
  have h0 : (valOf c).vs.length = 0 ∨ rightV (valOf c) = false → partV c b = zeroV := fun h => by unfold partV; rw [if_pos h]
  have h1 : ¬ ((valOf c).vs.length = 0 ∨ rightV (valOf c) = false) → partV c b = (valOf c).vs.getD (b.tmod ((valOf c).vs.length : Int)).toNat zeroV := fun h => by unfold partV; rw [if_neg h]
  have hg := valOf_good c
  have hval : ∀ H, ACall Tryz.prog 32 [u8s c] H (IsR H (.agg (encV (valOf c)))) := val_spec c hc
  generalize valOf c = x at *
  obtain ⟨k, n, t, ks, vs⟩ := x
  simp only [vvs] at h0 h1
  have hvl := encVs_len vs
  by_cases hz : vs.length = 0
  · rw [h0 (.inl hz)]
    refine UCall (n := 28) (H0 := H) (objs := []) Tryz.func12 (by kernel_rfl) rfl (by rw [Tryz.ntmps12]; rfl) .nil <| ?_
    focus
      refine Q.rg <| S.dd <| D.al z26 rfl rfl rfl fun p4 => Q.nt <| Q.rg <| Q.mv rfl <| S.qu (Z.call rfl rfl (fun _ => hval _)) <| S.dd <| D.al z26 rfl rfl rfl fun p5 => S.s <| D.st 0 ty26 rfl rfl rfl rfl rfl rfl rfl rfl fun _ => Q.nt <| S.sq <| Q.rg <| Q.fa f26_4 rfl <| Q.lc 0 ty24 rfl rfl rfl <| S.qu (Z.lns sl24 rfl) <| Q.bi rfl rfl rfl <| Q.mv rfl <| ?_
      refine S.tE 12 (fun hc12 => ?_) (fun hc12 => ?_)
      rotate_left
      omega
      refine Q.of <| Q.of <| Q.of <| Q.pk rfl rfl <| Q.nt <| S.cT rfl rfl <| Q.rg <| S.qu (Z.bd [] bt26 rfl rfl rfl rfl rfl rfl) <| S.s <| D.st 1 ty26 rfl rfl rfl rfl rfl rfl rfl rfl fun _ => Q.nt <| UW.ret <| UQ.passR <| S.rtR (fun hd => res_cell (k := 1) hd rfl rfl rfl st26 sz26) <| ?_
      rfl
  · cases hr : rightV (.mk k n t ks vs) with
    | false =>
      rw [h0 (.inr hr)]
      refine UCall (n := 28) (H0 := H) (objs := []) Tryz.func12 (by kernel_rfl) rfl (by rw [Tryz.ntmps12]; rfl) .nil <| ?_
      refine Q.rg <| S.dd <| D.al z26 rfl rfl rfl fun p4 => Q.nt <| Q.rg <| Q.mv rfl <| S.qu (Z.call rfl rfl (fun _ => hval _)) <| S.dd <| D.al z26 rfl rfl rfl fun p5 => S.s <| D.st 0 ty26 rfl rfl rfl rfl rfl rfl rfl rfl fun _ => Q.nt <| S.sq <| Q.rg <| Q.fa f26_4 rfl <| Q.lc 0 ty24 rfl rfl rfl <| S.qu (Z.lns sl24 rfl) <| Q.bi rfl rfl rfl <| Q.mv rfl <| ?_
      refine S.tE 12 (fun hc12 => ?_) (fun hc12 => ?_)
      omega
      refine Q.on (Z.ldw 0 ty26 rfl rfl rfl) <| Q.on (Z.eq (Z.call rfl rfl (fun _ => rightR_spec _ hg.1 hg.2.1 _)) (by rw [hr])) <| ?_
      refine Q.on (Z.not rfl) <| Q.pk rfl rfl <| Q.nt <| S.cT rfl rfl <| Q.rg <| S.qu (Z.bd [] bt26 rfl rfl rfl rfl rfl rfl) <| S.s <| D.st 1 ty26 rfl rfl rfl rfl rfl rfl rfl rfl fun _ => Q.nt <| UW.ret <| UQ.passR <| S.rtR (fun hd => res_cell (k := 1) hd rfl rfl rfl st26 sz26) <| ?_
      rfl
    | true =>
      rw [h1 (by simp [hz, hr])]
      have hm0 := Int.tmod_nonneg (vs.length : Int) hb0
      have hm1 := Int.tmod_lt_of_pos b (by omega : (0 : Int) < (vs.length : Int))
      have hkg := kid_get vs (b.tmod (vs.length : Int)).toNat (by omega)
      refine UCall (n := 28) (H0 := H) (objs := []) Tryz.func12 (by kernel_rfl) rfl (by rw [Tryz.ntmps12]; rfl) .nil <| ?_
      refine Q.rg <| S.dd <| D.al z26 rfl rfl rfl fun p4 => Q.nt <| Q.rg <| Q.mv rfl <| S.qu (Z.call rfl rfl (fun _ => hval _)) <| S.dd <| D.al z26 rfl rfl rfl fun p5 => S.s <| D.st 0 ty26 rfl rfl rfl rfl rfl rfl rfl rfl fun _ => Q.nt <| S.sq <| Q.rg <| Q.fa f26_4 rfl <| Q.lc 0 ty24 rfl rfl rfl <| S.qu (Z.lns sl24 rfl) <| Q.bi rfl rfl rfl <| Q.mv rfl <| ?_
      refine S.tE 12 (fun hc12 => ?_) (fun hc12 => ?_)
      omega
      refine Q.on (Z.ldw 0 ty26 rfl rfl rfl) <| Q.on (Z.eq (Z.call rfl rfl (fun _ => rightR_spec _ hg.1 hg.2.1 _)) (by rw [hr])) <| ?_
      refine Q.on (Z.not rfl) <| Q.pk rfl rfl <| Q.nt <| S.cF rfl rfl <| UW.skip <| UQ.then <| S.sq <| ?_
      refine' UW.draw' (by kernel_rfl) [0, 1, 0, 4, 0, 16, 48, 124, 255, 511, 1023] [some 18, some 19, some 20, some 21, some 22, some 23, some 24, some 25, some 26, some 27, none] [some (18, _), some (19, _), some (20, _), some (21, _), some (22, _), some (23, _), some (24, _), some (25, _), some (26, _), some (27, _), none] [10] [1, 5, 9] rfl (by decide) (by decide) (QAll.free (by decide) rfl rfl ?q2x0_0 (QAll.held (by decide) rfl rfl ?q2x0_1 (QAll.free (by decide) rfl rfl ?q2x0_2 (QAll.free (by decide) rfl rfl ?q2x0_3 (QAll.free (by decide) rfl rfl ?q2x0_4 (QAll.held (by decide) rfl rfl ?q2x0_5 (QAll.free (by decide) rfl rfl ?q2x0_6 (QAll.free (by decide) rfl rfl ?q2x0_7 (QAll.free (by decide) rfl rfl ?q2x0_8 (QAll.held (by decide) rfl rfl ?q2x0_9 (QAll.skip QAll.nil))))))))))) ?q2x0_k
      case q2x0_0 => (intro _; exact Z.fa f26_4 rfl)
      case q2x0_1 => exact Z.ldc 0 ty24 rfl rfl rfl
      case q2x0_2 => (intro _; exact Z.mv rfl)
      case q2x0_3 => (intro _; exact Z.cv Tryz.underlying3 rfl (IntWalk.i64_in _ (by omega)) (by rw [Tryz.underlying5]; rfl))
      case q2x0_4 => (intro _; exact Z.fa f26_4 rfl)
      case q2x0_5 => exact Z.ldc 0 ty24 rfl rfl rfl
      case q2x0_6 => (intro _; exact Z.lns sl24 rfl)
      case q2x0_7 => (intro _; exact Z.bi (vr := .int .i64 (b.tmod (vs.length : Int))) rfl rfl (by rw [hvl]; exact if_neg (by omega)))
      case q2x0_8 => (intro _; exact Z.ia sl24 rfl rfl (by omega) (by assumption) (by exact encV_len _))
      case q2x0_9 => exact Z.lpa ty26 rfl (encV_len _)
      refine CH.cons0 rfl rfl <| D.stw 1 ty26 rfl rfl rfl rfl (by exact encV_cell _) (encV_len _) rfl rfl fun _ => ?_
      refine CH.nil <| ?_
      simp only [app, finL]
      refine UQ.then <| UW.ret <| S.rtR (fun hd => res_cell (k := 1) hd rfl rfl rfl st26 (by rw [encV_len]; exact sz26)) <| ?_
      rfl
end Go.Proofs.YtgmfgmbgmjbdhaaGreatDoor
end
section
namespace Go.Proofs.YtgmfgmbgmjbdhaaGreatDoor
open Go Go.RowKit Go.Eng
set_option linter.unusedSimpArgs false
set_option linter.unusedVariables false
set_option maxRecDepth 100000
theorem cmpL_self : ∀ a : List UInt8, Lib.compareBytes a a = 0
  | [] => rfl
  | a :: l => by
    rw [Lib.compareBytes, if_neg (by exact UInt8.lt_irrefl a), if_neg (by exact UInt8.lt_irrefl a), cmpL_self l]
theorem u8_tri (a b : UInt8) (h1 : ¬ a < b) (h2 : ¬ b < a) : a = b := by
  apply UInt8.toNat_inj.1
  rw [UInt8.lt_iff_toNat_lt] at h1 h2
  omega
theorem cmpL_eq0 : ∀ a b : List UInt8, Lib.compareBytes a b = 0 → a = b
  | [], [], _ => rfl
  | [], _ :: _, h => by simp [Lib.compareBytes] at h
  | _ :: _, [], h => by simp [Lib.compareBytes] at h
  | a :: l, b :: r, h => by
    rw [Lib.compareBytes] at h
    split at h
    · cases h
    · split at h
      · cases h
      · rename_i h1 h2
        rw [u8_tri a b h1 h2, cmpL_eq0 l r h]
theorem cmpL_anti : ∀ a b : List UInt8, Lib.compareBytes b a = - Lib.compareBytes a b
  | [], [] => rfl
  | [], _ :: _ => rfl
  | _ :: _, [] => rfl
  | a :: l, b :: r => by
    rw [Lib.compareBytes, Lib.compareBytes]
    by_cases h1 : a < b
    · have h2 : ¬ b < a := by rw [UInt8.lt_iff_toNat_lt] at h1 ⊢; omega
      rw [if_neg h2, if_pos h1, if_pos h1]; rfl
    · by_cases h2 : b < a
      · rw [if_pos h2, if_neg h1, if_pos h2]
      · rw [if_neg h2, if_neg h1, if_neg h1, if_neg h2]; exact cmpL_anti l r
theorem cmpL_trans : ∀ a b c : List UInt8, Lib.compareBytes a b < 0 → Lib.compareBytes b c < 0 → Lib.compareBytes a c < 0
  | [], _, [], h1, h2 => by
    rename_i b
    cases b with
    | nil => simp [Lib.compareBytes] at h1
    | cons x r => simp [Lib.compareBytes] at h2
  | [], _, _ :: _, _, _ => by simp [Lib.compareBytes]
  | _ :: _, [], _, h1, _ => by simp [Lib.compareBytes] at h1
  | _ :: _, _ :: _, [], _, h2 => by simp [Lib.compareBytes] at h2
  | a :: l, b :: r, c :: q, h1, h2 => by
    rw [Lib.compareBytes] at h1 h2 ⊢
    by_cases ab : a < b
    · by_cases bc : b < c
      · rw [if_pos (by rw [UInt8.lt_iff_toNat_lt] at *; omega)]; decide
      · rw [if_neg bc] at h2
        by_cases cb : c < b
        · rw [if_pos cb] at h2; simp at h2
        · have := u8_tri b c bc cb; subst this
          rw [if_pos ab]; decide
    · rw [if_neg ab] at h1
      by_cases ba : b < a
      · rw [if_pos ba] at h1; simp at h1
      · have := u8_tri a b ab ba; subst this
        rw [if_neg ba] at h1
        by_cases bc : a < c
        · rw [if_pos bc]; decide
        · rw [if_neg bc] at h2 ⊢
          by_cases cb : c < a
          · rw [if_pos cb] at h2; simp at h2
          · rw [if_neg cb] at h2 ⊢; exact cmpL_trans l r q h1 h2
theorem less_irr (a : ByteArray) : lessB a a = false := by unfold lessB cmpB; rw [cmpL_self]; rfl
theorem less_trans {a b c : ByteArray} (h1 : lessB a b = true) (h2 : lessB b c = true) : lessB a c = true := by
  unfold lessB at *; exact decide_eq_true (cmpL_trans _ _ _ (of_decide_eq_true h1) (of_decide_eq_true h2))
theorem less_tri {a b : ByteArray} (h1 : lessB a b = false) (h2 : a ≠ b) : lessB b a = true := by
  unfold lessB cmpB at *
  have h3 := of_decide_eq_false h1
  have h4 : Lib.compareBytes a.data.toList b.data.toList ≠ 0 := fun h => h2 (ByteArray.ext (Array.toList_inj.1 (cmpL_eq0 _ _ h)))
  exact decide_eq_true (by rw [cmpL_anti]; omega)
/-- Keys in order, each above the one before. -/
def Asc (ks : List ByteArray) : Prop := ∀ i j (hi : i < ks.length) (hj : j < ks.length), i < j → lessB ks[i] ks[j] = true
theorem asc_of_ok {ks : List ByteArray} (h : keysOk ks = true) : Asc ks ∧ ∀ s ∈ ks, chk s < 0 := by
  unfold keysOk at h
  rw [List.all_eq_true] at h
  have h1 : ∀ i (hi : i < ks.length), chk ks[i] < 0 ∧ (0 < i → lessB (ks.getD (i - 1) ⟨#[]⟩) ks[i] = true) := fun i hi => by
    have := h i (List.mem_range.2 hi)
    unfold okKey at this
    rw [getD_at hi, Bool.and_eq_true, Bool.or_eq_true] at this
    refine ⟨of_decide_eq_true this.1, fun h0 => ?_⟩
    rcases this.2 with h2 | h2
    · have := of_decide_eq_true h2; omega
    · exact h2
  refine ⟨fun i j hi hj hij => ?_, fun s hs => by obtain ⟨i, hi, rfl⟩ := List.getElem_of_mem hs; exact (h1 i hi).1⟩
  have step : ∀ d, ∀ j (hj : j < ks.length), j = i + 1 + d → lessB ks[i] ks[j] = true := by
    intro d
    induction d with
    | zero =>
      intro j hj e
      have := (h1 j hj).2 (by omega)
      rw [getD_at (by omega)] at this
      have e2 : j - 1 = i := by omega
      simpa [e2] using this
    | succ d ih =>
      intro j hj e
      have h2 := (h1 j hj).2 (by omega)
      rw [getD_at (by omega)] at h2
      exact less_trans (ih (j - 1) (by omega) (by omega)) h2
  exact step (j - i - 1) j hj (by omega)
theorem ok_of_asc {ks : List ByteArray} (h : Asc ks) (hc : ∀ s ∈ ks, chk s < 0) : keysOk ks = true := by
  unfold keysOk
  rw [List.all_eq_true]
  intro i hi
  have hi := List.mem_range.1 hi
  unfold okKey
  rw [getD_at hi, decide_eq_true (hc _ (List.getElem_mem hi))]
  by_cases h0 : i = 0
  · simp [h0]
  · rw [getD_at (by omega)]
    have := h (i - 1) i (by omega) hi (by omega)
    unfold lessB at this
    simp [this]
theorem asc_ne {ks : List ByteArray} (h : Asc ks) {i j : Nat} (hi : i < ks.length) (hj : j < ks.length) (e : ks[i] = ks[j]) : i = j := by
  rcases Nat.lt_trichotomy i j with h1 | h1 | h1
  · have := h i j hi hj h1; rw [e, less_irr] at this; cases this
  · exact h1
  · have := h j i hj hi h1; rw [e, less_irr] at this; cases this
theorem keyIdx_asc {ks : List ByteArray} (h : Asc ks) {i : Nat} (hi : i < ks.length) : keyIdx ks ks[i] = some i :=
  keyIdx_at hi (by simp) fun j hj hji => by
    by_cases e : ks[i].toList = ks[j].toList
    · have := asc_ne h hj hi (bytes_ext e).symm; omega
    · simpa using e
theorem keyIdx_out {ks : List ByteArray} {s : ByteArray} (h : s ∉ ks) : keyIdx ks s = none := by
  unfold keyIdx
  rw [List.findIdx?_eq_none_iff]
  intro x hx
  by_cases e : s.toList = x.toList
  · exact absurd (bytes_ext e ▸ hx) h
  · simpa using e
theorem keyIdx_not {ks : List ByteArray} {s : ByteArray} (h : keyIdx ks s = none) : s ∉ ks := fun hm => by
  unfold keyIdx at h
  rw [List.findIdx?_eq_none_iff] at h
  have := h s hm
  simp at this
end Go.Proofs.YtgmfgmbgmjbdhaaGreatDoor
end
section
namespace Go.Proofs.YtgmfgmbgmjbdhaaGreatDoor
open Go Go.RowKit Go.Eng
set_option linter.unusedSimpArgs false
set_option linter.unusedVariables false
set_option maxRecDepth 100000
set_option maxHeartbeats 4000000
def createB : ByteArray := ⟨#[109, 46, 114, 111, 111, 109, 46, 99, 114, 101, 97, 116, 101]⟩
def memberB : ByteArray := ⟨#[109, 46, 114, 111, 111, 109, 46, 109, 101, 109, 98, 101, 114]⟩
def powerB : ByteArray := ⟨#[109, 46, 114, 111, 111, 109, 46, 112, 111, 119, 101, 114, 95, 108, 101, 118, 101, 108, 115]⟩
def joinsB : ByteArray := ⟨#[109, 46, 114, 111, 111, 109, 46, 106, 111, 105, 110, 95, 114, 117, 108, 101, 115]⟩
def aclB : ByteArray := ⟨#[109, 46, 114, 111, 111, 109, 46, 115, 101, 114, 118, 101, 114, 95, 97, 99, 108]⟩
def membershipB : ByteArray := ⟨#[109, 101, 109, 98, 101, 114, 115, 104, 105, 112]⟩
def joinRuleB : ByteArray := ⟨#[106, 111, 105, 110, 95, 114, 117, 108, 101]⟩
def allowB : ByteArray := ⟨#[97, 108, 108, 111, 119]⟩
def denyB : ByteArray := ⟨#[100, 101, 110, 121]⟩
def powerT : ByteArray := ⟨#[98, 97, 110, 32, 101, 118, 101, 110, 116, 115, 32, 101, 118, 101, 110, 116, 115, 95, 100, 101, 102, 97, 117, 108, 116, 32, 105, 110, 118, 105, 116, 101, 32, 107, 105, 99, 107, 32, 115, 116, 97, 116, 101, 95, 100, 101, 102, 97, 117, 108, 116, 32, 117, 115, 101, 114, 115, 32, 117, 115, 101, 114, 115, 95, 100, 101, 102, 97, 117, 108, 116]⟩
def fieldT : ByteArray := ⟨#[97, 117, 116, 104, 95, 101, 118, 101, 110, 116, 115, 32, 99, 111, 110, 116, 101, 110, 116, 32, 100, 101, 112, 116, 104, 32, 104, 97, 115, 104, 101, 115, 32, 111, 114, 105, 103, 105, 110, 95, 115, 101, 114, 118, 101, 114, 95, 116, 115, 32, 112, 114, 101, 118, 95, 101, 118, 101, 110, 116, 115, 32, 114, 111, 111, 109, 95, 105, 100, 32, 115, 101, 110, 100, 101, 114, 32, 115, 116, 97, 116, 101, 95, 107, 101, 121, 32, 116, 121, 112, 101]⟩
def powerL : List ByteArray := [⟨#[98, 97, 110]⟩, ⟨#[101, 118, 101, 110, 116, 115]⟩, ⟨#[101, 118, 101, 110, 116, 115, 95, 100, 101, 102, 97, 117, 108, 116]⟩, ⟨#[105, 110, 118, 105, 116, 101]⟩, ⟨#[107, 105, 99, 107]⟩, ⟨#[115, 116, 97, 116, 101, 95, 100, 101, 102, 97, 117, 108, 116]⟩, ⟨#[117, 115, 101, 114, 115]⟩, ⟨#[117, 115, 101, 114, 115, 95, 100, 101, 102, 97, 117, 108, 116]⟩]
def fieldL : List ByteArray := [⟨#[97, 117, 116, 104, 95, 101, 118, 101, 110, 116, 115]⟩, ⟨#[99, 111, 110, 116, 101, 110, 116]⟩, ⟨#[100, 101, 112, 116, 104]⟩, ⟨#[104, 97, 115, 104, 101, 115]⟩, ⟨#[111, 114, 105, 103, 105, 110, 95, 115, 101, 114, 118, 101, 114, 95, 116, 115]⟩, ⟨#[112, 114, 101, 118, 95, 101, 118, 101, 110, 116, 115]⟩, ⟨#[114, 111, 111, 109, 95, 105, 100]⟩, ⟨#[115, 101, 110, 100, 101, 114]⟩, ⟨#[115, 116, 97, 116, 101, 95, 107, 101, 121]⟩, ⟨#[116, 121, 112, 101]⟩]
theorem mp57 : mapT Tryz.prog 57 = some 23 := by kernel_rfl
/-- strings.Fields of plain texts. -/
theorem fields_spec (s : ByteArray) (l : List ByteArray) (hs : s.size < 1000) (ha : (s.data.toList.all fun b => b.toNat < 128) = true) (hl : (Lib.fields s.data.toList).map (fun l => (⟨l.toArray⟩ : ByteArray)) = l) (h2 : l.length ≤ 1000) (H : Hp) (hG : Glob H) : ACall Tryz.prog 46 [.v (.string s)] H (IsR H (strs l)) := by
  refine ⟨⟨_, Tryz.func46, by kernel_rfl, by kernel_rfl⟩, fun ρ w vals hh hr => ?_⟩
  obtain ⟨hvl, hr⟩ := hr
  match vals, hvl, hr with
  | [v], _, hr =>
    have e1 := rep_v (hr 0 _ _ rfl rfl)
    subst e1
    refine (Tryz.strings_Fields s w (by omega) (fun j b hb => by simpa using List.all_eq_true.1 ha b (List.mem_of_getElem? hb)) (hG.2.tab hh)).mono <| ?_
    rintro e w' ⟨rfl, rfl⟩
    have hll : (Lib.fields s.data.toList).length = l.length := by rw [← hl, List.length_map]
    have hcells : (Lib.fields s.data.toList).map (fun l => Value.string ⟨l.toArray⟩) = l.map Value.string := by rw [← hl, List.map_map]; rfl
    rw [hll, hcells]
    obtain ⟨q1, q2⟩ := hh.below (below_alloc w (.cells (l.map Value.string).toArray 9))
    have hnew : okOf ρ H w.heap.size := by
      rintro ⟨id, ob, v, _, b, c⟩
      have := hh.lt id v _ b c
      omega
    refine ⟨_, ρ, strs l, H, rfl, q1, q2, ?_, rfl, rfl⟩
    have := Rep.sl (ok := okOf ρ H) (ρ := ρ) (w := w.alloc (.cells (l.map Value.string).toArray 9)) (l.map encS) ⟨w.heap.size, 0, none⟩ l.length 1 (fun i j => .string (l.getD i ⟨#[]⟩)) (by rw [List.length_map]; exact Nat.le_refl _) (by simp only [maxLen]; omega) (fun _ => ⟨hnew, by rw [size_alloc]; simp⟩) (strs_sz l) (fun i cs j hi hj => ?_) (fun i cs j u hi hj => ?_)
    · rw [List.length_map] at this; exact this
    · have hc1 := strs_sz l cs (List.mem_of_getElem? hi)
      have hj0 : j = 0 := by omega
      subst hj0
      have hil : i < l.length := by have := (List.getElem?_eq_some_iff.1 hi).1; rwa [List.length_map] at this
      rw [add_plain]
      refine ⟨?_, rfl⟩
      simp only [World.cell?, heap_alloc_new]
      simp [hil]
    · have hil : i < l.length := by have := (List.getElem?_eq_some_iff.1 hi).1; rwa [List.length_map] at this
      rw [List.getElem?_map, List.getElem?_eq_getElem hil] at hi
      cases hi
      have hj0 : j = 0 := by have := (List.getElem?_eq_some_iff.1 hj).1; simpa [encS] using this
      subst hj0
      simp [encS] at hj
      subst hj
      simp [hil]
      exact .v _
theorem power_fields : (Lib.fields powerT.data.toList).map (fun l => (⟨l.toArray⟩ : ByteArray)) = powerL := by kernel_rfl
theorem field_fields : (Lib.fields fieldT.data.toList).map (fun l => (⟨l.toArray⟩ : ByteArray)) = fieldL := by kernel_rfl
def hasB (l : List ByteArray) (s : ByteArray) : Bool := l.any fun x => s.toList == x.toList
theorem hasB_mem {l : List ByteArray} {s : ByteArray} : hasB l s = true ↔ s ∈ l := by
  unfold hasB
  rw [List.any_eq_true]
  constructor
  · rintro ⟨x, h1, h2⟩
    rw [bytes_ext (by simpa using h2 : s.toList = x.toList)]; exact h1
  · intro h; exact ⟨s, h, by simp⟩
theorem idx_mem (l : List ByteArray) (s : ByteArray) : decide (oi (keyIdx l s) ≥ 0) = hasB l s := by
  cases h : keyIdx l s with
  | none =>
    have := keyIdx_not h
    rw [← hasB_mem] at this
    have h2 : hasB l s = false := by simpa using this
    rw [h2]
    rfl
  | some i =>
    unfold keyIdx at h
    obtain ⟨hi, h1, _⟩ := List.findIdx?_eq_some_iff_getElem.1 h
    have : hasB l s = true := List.any_eq_true.2 ⟨l[i], List.getElem_mem hi, h1⟩
    rw [this]
    rfl
theorem contains_spec (l : List ByteArray) (s : ByteArray) (hl : l.length ≤ 1000000) (H : Hp) : ACall Tryz.prog 49 [strs l, .v (.string s)] H (IsR H (.v (.bool (hasB l s)))) := by
  have hi := idx_mem l s
  unfold strs
  refine UCall (n := 9) (H0 := H) (objs := []) Tryz.func49 (by kernel_rfl) rfl (by rw [Tryz.ntmps49]; rfl) .nil <| ?_
  refine Q.rg <| Q.as rfl <| Q.nt <| Q.rg <| Q.mv rfl <| Q.mv rfl <| S.qu (Z.call rfl rfl (fun _ => index_spec l s hl _)) <| Q.bi rfl rfl rfl <| Q.as rfl <| Q.nt <| UW.ret <| S.rtR (fun _ => res_tmp rfl rfl) <| ?_
  focus (rw [← hi]; done)
theorem hasR_spec (l : List ByteArray) (s : ByteArray) (hl : l.length ≤ 1000000) (H : Hp) : ACall Tryz.prog 56 [strs l, .v (.string s)] H (IsR H (.v (.bool (hasB l s)))) := by
  have hml : (l.map encS).length = l.length := List.length_map ..
  unfold strs
  refine UCall (n := 18) (H0 := H) (objs := []) Tryz.func56 (by kernel_rfl) rfl (by rw [Tryz.ntmps56]; rfl) .nil <| ?_
  refine Q.rg <| Q.as rfl <| Q.nt <| S.sq <| Q.rg <| Q.as rfl <| Q.nt <| UW.block <| S.loop (fun j : Nat => [(5, .v (.int .i64 (j : Int))), (0, .sl (l.map encS)), (1, .v (.string s))]) (fun _ => []) (fun j => j ≤ l.length ∧ hasB l s = hasB (l.drop j) s) (fun j => l.length - j) 0 ⟨Nat.zero_le _, rfl⟩ ⟨rfl, rfl, rfl, trivial⟩ (.refl _) <| ?_
  rintro j ⟨hj, hJ⟩
  by_cases hlt : j < l.length
  · have hg := strs_get l j hlt
    have hd : hasB (l.drop j) s = ((s.toList == l[j].toList) || hasB (l.drop (j + 1)) s) := by
      rw [List.drop_eq_getElem_cons hlt]; rfl
    focus
      refine S.sq <| Q.rg <| Q.mv rfl <| Q.mv rfl <| S.qu (Z.lns sl23 rfl) <| Q.bi rfl rfl rfl <| Q.nt <| S.cT rfl (decide_eq_true (by omega)) <| UW.skip <| UQ.then <| S.sq <| UW.block <| Q.rg <| Q.mv rfl <| Q.mv rfl <| S.qu (Z.ia sl23 rfl rfl (by omega) (by assumption) (by rfl)) <| ?_
      refine S.qu (Z.lpc ty9 rfl) <| Q.mv rfl <| S.qu (Z.bs rfl rfl rfl) <| Q.nt <| ?_
      refine S.cE rfl (fun hc17 => ?_) (fun hc17 => ?_)
      refine Q.rg <| Q.as rfl <| Q.nt <| UW.ret <| UQ.blockR <| UQ.passR <| UQ.passR <| UQ.blockR <| UQ.passR <| S.rtR (fun _ => res_tmp rfl rfl) <| ?_
      rotate_left
      refine UW.skip <| UQ.blockN <| UQ.then <| S.rg <| Q.mv rfl <| S.qu (Z.add (r := ((j + 1 : Nat) : Int)) rfl rfl (IntWalk.i64_in _ (by omega))) <| Q.as rfl <| US.nil <| ?_
      refine S.back _ ⟨rfl, rfl, rfl, trivial⟩ (.refl _) ?_ (by omega)
      rotate_left
    · rw [hJ, hd, show (s.toList == l[j].toList) = true from by simpa using hc17.symm]; rfl
    · exact ⟨by omega, by rw [hJ, hd, show (s.toList == l[j].toList) = false from by simpa using Ne.symm hc17]; rfl⟩
  · refine S.sq <| Q.rg <| Q.mv rfl <| Q.mv rfl <| S.qu (Z.lns sl23 rfl) <| Q.bi rfl rfl rfl <| Q.nt <| S.cF rfl (decide_eq_false (by omega)) <| UW.exit <| UQ.pass <| UQ.pass <| UQ.here <| UQ.then <| Q.rg <| Q.as rfl <| Q.nt <| UW.ret <| S.rtR (fun _ => res_tmp rfl rfl) <| ?_
    rw [hJ, List.drop_eq_nil_of_le (by omega)]; rfl
def keptE : List (ByteArray × AV) := [(memberB, strs [membershipB]), (powerB, strs powerL), (joinsB, strs [joinRuleB]), (aclB, strs [allowB, denyB])]
def keptL (kind : ByteArray) : List ByteArray := if kind = memberB then [membershipB] else if kind = powerB then powerL else if kind = joinsB then [joinRuleB] else if kind = aclB then [allowB, denyB] else []
def keptB (kind key : ByteArray) : Bool := kind.toList == createB.toList || hasB (keptL kind) key
theorem keptL_len (kind : ByteArray) : (keptL kind).length ≤ 8 := by
  unfold keptL
  (repeat' split) <;> decide
theorem lookE_kept (kind : ByteArray) : lookE keptE kind = some (strs (keptL kind)) ∨ (lookE keptE kind = none ∧ keptL kind = []) := by
  unfold keptL keptE
  simp only [lookE]
  (repeat' split) <;> first | exact .inl rfl | exact .inr ⟨rfl, rfl⟩
theorem keptM_spec (H : Hp) (hG : Glob H) : ACall Tryz.prog 51 [] H (fun u H' => ∃ news, Dist H news ∧ H' = extH H news ∧ ∃ id, u = .mpr id ∧ news = [(id, .mp keptE)]) := by
  refine UCall (n := 7) (H0 := H) (objs := []) Tryz.func51 (by kernel_rfl) rfl (by rw [Tryz.ntmps51]; rfl) .nil <| ?_
  refine Q.rg <| Q.as rfl <| Q.nt <| Q.rg <| S.dd <| D.mkm fun p1 => S.qu (Z.bl row23 rfl rfl (lit_ok rfl)) <| S.s <| D.ins 0 mp57 rfl rfl rfl rfl rfl rfl rfl fun _ => S.qu (Z.callg rfl rfl (fun _ hS => fields_spec powerT powerL (by decide) (by decide) power_fields (by decide) _ (hG.mono hS))) <| S.s <| D.ins 0 mp57 rfl rfl rfl rfl rfl rfl rfl fun _ => S.qu (Z.bl row23 rfl rfl (lit_ok rfl)) <| S.s <| D.ins 0 mp57 rfl rfl rfl rfl rfl rfl rfl fun _ => S.qu (Z.bl row23 rfl rfl (lit_ok rfl)) <| S.s <| D.ins 0 mp57 rfl rfl rfl rfl rfl rfl rfl fun _ => Q.mv rfl <| Q.as rfl <| Q.nt <| UW.ret <| ?_
  exact retR [_] (fun _ => res_tmp rfl rfl) (.refl _) fun hd => ⟨_, hd, rfl, _, rfl, rfl⟩
theorem kept_spec (kind key : ByteArray) (H : Hp) (hG : Glob H) : ACall Tryz.prog 23 [.v (.string kind), .v (.string key)] H (IsR H (.v (.bool (keptB kind key)))) := by
  have hl := keptL_len kind
  rcases lookE_kept kind with hk | ⟨hk, hk2⟩
  · refine UCall (n := 14) (H0 := H) (objs := []) Tryz.func23 (by kernel_rfl) rfl (by rw [Tryz.ntmps23]; rfl) .nil <| ?_
    refine Q.rg <| Q.as rfl <| Q.nt <| Q.rg <| Q.mv rfl <| S.qu (Z.bs rfl rfl rfl) <| Q.mv rfl <| ?_
    refine S.tE 7 (fun hc7 => ?_) (fun hc7 => ?_)
    refine Q.of <| Q.of <| Q.of <| Q.of <| Q.of <| Q.pk rfl rfl <| Q.as rfl <| Q.nt <| UW.ret <| S.rtR (fun _ => res_tmp rfl rfl) <| ?_
    focus (rw [keptB, show (kind.toList == createB.toList) = true from beq_t hc7, Bool.true_or]; done)
    refine S.dd <| D.on <| D.cne rfl rfl (fun hd => keptM_spec _ (hG.ext hd)) <| ?_
    rintro _ _ ⟨p8, rfl, rfl⟩
    refine Q.on (Z.mv rfl) <| Q.on (Z.lkm (u := strs (keptL kind)) 0 mp57 z23 rfl rfl rfl (congrArg (fun o => Option.getD o (.v (.slice none 0 0))) hk)) <| Q.on (Z.mv rfl) <| Q.on (Z.call rfl rfl (fun H => contains_spec (keptL kind) key (by omega) H)) <| Q.pk rfl rfl <| Q.as rfl <| Q.nt <| UW.ret <| S.rtR (fun _ => res_tmp rfl rfl) <| ?_
    focus (rw [keptB, show (kind.toList == createB.toList) = false from beq_f hc7, Bool.false_or]; done)
  · refine UCall (n := 14) (H0 := H) (objs := []) Tryz.func23 (by kernel_rfl) rfl (by rw [Tryz.ntmps23]; rfl) .nil <| ?_
    refine Q.rg <| Q.as rfl <| Q.nt <| Q.rg <| Q.mv rfl <| S.qu (Z.bs rfl rfl rfl) <| Q.mv rfl <| ?_
    refine S.tE 7 (fun hc7 => ?_) (fun hc7 => ?_)
    refine Q.of <| Q.of <| Q.of <| Q.of <| Q.of <| Q.pk rfl rfl <| Q.as rfl <| Q.nt <| UW.ret <| S.rtR (fun _ => res_tmp rfl rfl) <| ?_
    focus (rw [keptB, show (kind.toList == createB.toList) = true from beq_t hc7, Bool.true_or]; done)
    refine S.dd <| D.on <| D.cne rfl rfl (fun hd => keptM_spec _ (hG.ext hd)) <| ?_
    rintro _ _ ⟨p8, rfl, rfl⟩
    refine Q.on (Z.mv rfl) <| Q.on (Z.lkm (u := .v (.slice none 0 0)) 0 mp57 z23 rfl rfl rfl (congrArg (fun o => Option.getD o (.v (.slice none 0 0))) hk)) <| US.slot 10 rfl (Turns.nil _) <| Q.on (Z.mv rfl) <| Q.on (Z.call rfl rfl (fun H => contains_spec [] key (by decide) H)) <| Q.pk rfl rfl <| Q.as rfl <| Q.nt <| UW.ret <| S.rtR (fun _ => res_tmp rfl rfl) <| ?_
    focus ((rw [keptB, show (kind.toList == createB.toList) = false from beq_f hc7, Bool.false_or, hk2]); done)
theorem hasB_one (a s : ByteArray) : hasB [a] s = (s.toList == a.toList) := by show (_ || false) = _; rw [Bool.or_false]
theorem hasB_two (a b s : ByteArray) : hasB [a, b] s = (s.toList == a.toList || s.toList == b.toList) := by show (_ || (_ || false)) = _; rw [Bool.or_false]
theorem keptB_create {kind : ByteArray} (h : kind.toList = createB.toList) (key : ByteArray) : keptB kind key = true := by rw [keptB, beq_t h, Bool.true_or]
theorem keptB_other {kind : ByteArray} (h : ¬ kind.toList = createB.toList) (key : ByteArray) : keptB kind key = hasB (keptL kind) key := by rw [keptB, beq_f h, Bool.false_or]
theorem keptL_1 {kind : ByteArray} (h : kind.toList = memberB.toList) : keptL kind = [membershipB] := by rw [bytes_ext h]; kernel_rfl
theorem keptL_2 {kind : ByteArray} (h : kind.toList = powerB.toList) : keptL kind = powerL := by rw [bytes_ext h]; kernel_rfl
theorem keptL_3 {kind : ByteArray} (h : kind.toList = joinsB.toList) : keptL kind = [joinRuleB] := by rw [bytes_ext h]; kernel_rfl
theorem keptL_4 {kind : ByteArray} (h : kind.toList = aclB.toList) : keptL kind = [allowB, denyB] := by rw [bytes_ext h]; kernel_rfl
theorem keptL_0 {kind : ByteArray} (h1 : ¬ kind.toList = memberB.toList) (h2 : ¬ kind.toList = powerB.toList) (h3 : ¬ kind.toList = joinsB.toList) (h4 : ¬ kind.toList = aclB.toList) : keptL kind = [] := by
  unfold keptL
  rw [if_neg (fun h => h1 (by rw [h])), if_neg (fun h => h2 (by rw [h])), if_neg (fun h => h3 (by rw [h])), if_neg (fun h => h4 (by rw [h]))]
theorem keptR_spec (kind key : ByteArray) (H : Hp) : ACall Tryz.prog 26 [.v (.string kind), .v (.string key)] H (IsR H (.v (.bool (keptB kind key)))) := by
  refine UCall (n := 29) (H0 := H) (objs := []) Tryz.func26 (by kernel_rfl) rfl (by rw [Tryz.ntmps26]; rfl) .nil <| ?_
  focus
    refine Q.rg <| Q.as rfl <| Q.nt <| S.sq <| Q.rg <| Q.mv rfl <| Q.nt <| UW.block <| Q.rg <| S.qu (Z.bs rfl rfl rfl) <| Q.as rfl <| Q.nt <| ?_
    refine S.cE rfl (fun hc6 => ?_) (fun hc6 => ?_)
    refine Q.rg <| Q.as rfl <| Q.nt <| UW.ret <| UQ.blockR <| UQ.passR <| S.rtR (fun _ => res_tmp rfl rfl) <| ?_
    rotate_left
    refine Q.rg <| S.qu (Z.bs rfl rfl rfl) <| Q.as rfl <| Q.nt <| ?_
    refine S.cE rfl (fun hc8 => ?_) (fun hc8 => ?_)
    refine Q.rg <| Q.mv rfl <| S.qu (Z.bs rfl rfl rfl) <| Q.as rfl <| Q.nt <| UW.ret <| UQ.blockR <| UQ.passR <| S.rtR (fun _ => res_tmp rfl rfl) <| ?_
    rotate_left
    refine Q.rg <| S.qu (Z.bs rfl rfl rfl) <| Q.as rfl <| Q.nt <| ?_
    refine S.cE rfl (fun hc12 => ?_) (fun hc12 => ?_)
    refine Q.rg <| S.qu (Z.bl row23 rfl rfl (lit_ok rfl)) <| Q.mv rfl <| S.qu (Z.call rfl rfl (fun H => hasR_spec powerL key (by decide) H)) <| Q.as rfl <| Q.nt <| UW.ret <| UQ.blockR <| UQ.passR <| S.rtR (fun _ => res_tmp rfl rfl) <| ?_
    rotate_left
    refine Q.rg <| S.qu (Z.bs rfl rfl rfl) <| Q.as rfl <| Q.nt <| ?_
    refine S.cE rfl (fun hc17 => ?_) (fun hc17 => ?_)
    refine Q.rg <| Q.mv rfl <| S.qu (Z.bs rfl rfl rfl) <| Q.as rfl <| Q.nt <| UW.ret <| UQ.blockR <| UQ.passR <| S.rtR (fun _ => res_tmp rfl rfl) <| ?_
    rotate_left
    refine Q.rg <| S.qu (Z.bs rfl rfl rfl) <| Q.as rfl <| Q.nt <| ?_
    refine S.cE rfl (fun hc21 => ?_) (fun hc21 => ?_)
    refine Q.rg <| Q.mv rfl <| S.qu (Z.bs rfl rfl rfl) <| Q.mv rfl <| ?_
    refine S.tE 25 (fun hc25 => ?_) (fun hc25 => ?_)
    refine Q.of <| Q.of <| Q.pk rfl rfl <| Q.as rfl <| Q.nt <| UW.ret <| UQ.blockR <| UQ.passR <| S.rtR (fun _ => res_tmp rfl rfl) <| ?_
    rotate_left
    refine Q.on (Z.mv rfl) <| Q.on (Z.bs rfl rfl rfl) <| Q.pk rfl rfl <| Q.as rfl <| Q.nt <| UW.ret <| UQ.blockR <| UQ.passR <| S.rtR (fun _ => res_tmp rfl rfl) <| ?_
    rotate_left
    refine UW.skip <| UQ.blockN <| UQ.then <| Q.rg <| Q.as rfl <| Q.nt <| UW.ret <| S.rtR (fun _ => res_tmp rfl rfl) <| ?_
    rotate_left
  · rw [keptB_create hc6]
  · rw [keptB_other hc6, keptL_1 hc8, hasB_one]; rfl
  · rw [keptB_other hc6, keptL_2 hc12]
  · rw [keptB_other hc6, keptL_3 hc17, hasB_one]; rfl
  · rw [keptB_other hc6, keptL_4 hc21, hasB_two, beq_t (show key.toList = allowB.toList from hc25), Bool.true_or]
  · rw [keptB_other hc6, keptL_4 hc21, hasB_two, beq_f (show ¬ key.toList = allowB.toList from hc25), Bool.false_or]; rfl
  · rw [keptB_other hc6, keptL_0 hc8 hc12 hc17 hc21]; rfl
end Go.Proofs.YtgmfgmbgmjbdhaaGreatDoor
end
