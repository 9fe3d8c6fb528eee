/- Samples: a value's part: what it is. -/
import Derived.Test.YtopaddebalfoeaaS3
namespace Go.Proofs.Ytopaddebalfoeaa
open Go Go.RowKit Go.Eng
set_option linter.unusedSimpArgs false
set_option linter.unusedVariables false
set_option maxRecDepth 100000
/-- A value of few levels, whose texts and lists are not too long. -/
def Good (d : Int) (x : V) : Prop := Fits x ∧ Tx x ∧ deepV x ≤ d
theorem deep_step {k n : Int} {t : ByteArray} {ks : List ByteArray} {vs : List V} {d : Int} (hd : 0 ≤ d) (h : ∀ v ∈ vs, deepV v ≤ d) : deepV (.mk k n t ks vs) ≤ d + 1 := by
  rw [deepV]
  split
  · rw [deepsV_eq, maxL_zero _ (fun c hc => by obtain ⟨x, _, rfl⟩ := List.mem_map.1 hc; exact deepV_nonneg x)]
    have := foldmax_le (r := vs.map deepV) (a := d) (b := 0) hd (fun c hc => by obtain ⟨x, hx, rfl⟩ := List.mem_map.1 hc; exact h x hx)
    omega
  · omega
theorem good_mk {k n : Int} {t : ByteArray} {ks : List ByteArray} {vs : List V} {d : Int} (hd : 0 ≤ d) (h1 : ks.length ≤ 1000000) (h2 : vs.length ≤ 1000000) (h3 : t.size ≤ 4000000) (h4 : ∀ s ∈ ks, s.size ≤ 4000000) (h : ∀ v ∈ vs, Good d v) : Good (d + 1) (.mk k n t ks vs) :=
  ⟨.mk _ _ _ _ _ h1 h2 fun x hx => (h x hx).1, .mk _ _ _ _ _ h3 h4 fun x hx => (h x hx).2.1, deep_step hd fun v hv => (h v hv).2.2⟩
theorem Good.up {d d' : Int} {x : V} (h : Good d x) (hd : d ≤ d') : Good d' x := ⟨h.1, h.2.1, by have := h.2.2; omega⟩
theorem good_leaf {k n : Int} {t : ByteArray} {d : Int} (hd : 0 ≤ d) (h3 : t.size ≤ 4000000) (hk : k < 4) : Good d (.mk k n t [] []) :=
  ⟨.mk _ _ _ _ _ (by simp) (by simp) (by simp), .mk _ _ _ _ _ h3 (by simp) (by simp), by rw [deepV, if_neg (by omega)]; exact hd⟩
theorem good_zero {d : Int} (hd : 0 ≤ d) : Good d zeroV := good_leaf hd (by decide) (by decide)
theorem good_of {x : V} {d : Int} (hd : 0 ≤ d) (h1 : x.ks.length ≤ 1000000) (h2 : x.vs.length ≤ 1000000) (h3 : x.t.size ≤ 4000000) (h4 : ∀ s ∈ x.ks, s.size ≤ 4000000) (h : ∀ v ∈ x.vs, Good d v) : Good (d + 1) x := by
  obtain ⟨k, n, t, ks, vs⟩ := x
  exact good_mk hd h1 h2 h3 h4 h
theorem withV_t (x : V) (key : ByteArray) (y : V) : (withV x key y).t = (objV x).t := by unfold withV; split <;> rfl
theorem objF_t (b1 : Int) (kids : List V) : ∀ q, (objF b1 kids q).t = ⟨#[]⟩
  | 0 => rfl
  | q + 1 => by
    show (withV _ _ _).t = _
    rw [withV_t]
    unfold objV
    split
    · exact objF_t b1 kids q
    · rfl
theorem objF_vals (b1 : Int) (kids : List V) (d : Int) (hd : 0 ≤ d) (hk : ∀ x ∈ kids, Good d x) : ∀ q, ∀ v ∈ (objF b1 kids q).vs, Good d v
  | 0 => by intro v h; cases h
  | q + 1 => by
    intro v hv
    rcases withV_vals hv with h | h
    · have e : objV (objF b1 kids q) = objF b1 kids q ∨ objV (objF b1 kids q) = .mk 5 0 ⟨#[]⟩ [] [] := by unfold objV; split; exact .inl rfl; exact .inr rfl
      rcases e with e | e
      · rw [e] at h; exact objF_vals b1 kids d hd hk q v h
      · rw [e] at h; cases h
    · subst h
      by_cases hi : q < kids.length
      · exact hk _ (getD_mem hi)
      · simp only [List.getD, List.getElem?_eq_none (Nat.le_of_not_lt hi)]; exact good_zero hd
theorem swV_good (b0 b1 : Int) (t : ByteArray) (l : List V) (d : Int) (hd : 0 ≤ d) (ht : t.size ≤ 4000000) (hl : l.length ≤ 1000) (h : ∀ x ∈ l, Good d x) : Good (d + 1) (swV b0 b1 t l).2 := by
  have hk : ∀ x ∈ kidsV b1 l, Good d x := fun x hx => h x (List.mem_of_mem_drop hx)
  have hkl : (kidsV b1 l).length ≤ l.length := by unfold kidsV; rw [List.length_drop]; omega
  unfold swV
  repeat' split
  · exact good_leaf (by omega) (by decide) (by decide)
  · exact good_leaf (by omega) (by decide) (by decide)
  · exact good_leaf (by omega) (by decide) (by decide)
  · exact good_leaf (by omega) (by decide) (by decide)
  · exact good_leaf (by omega) ht (by decide)
  · exact good_mk hd (by simp) (by omega) (by decide) (by simp) hk
  · obtain ⟨_, h1, h2, h3, _⟩ := objF_ok b1 (kidsV b1 l) (fun x hx => (hk x hx).1) (kidsV b1 l).length
    show Good (d + 1) (objF b1 (kidsV b1 l) (kidsV b1 l).length)
    exact good_of hd (by omega) (by omega) (by rw [objF_t]; decide) h3 (objF_vals b1 _ d hd hk _)
  · exact good_zero (by omega)
theorem valL_good (c : List Int) : ∀ n, n ≤ 100 → ∀ x ∈ valL c n, Good (n : Int) x
  | 0, _ => by intro x h; cases h
  | n + 1, hn => by
    obtain ⟨h1, _⟩ := valL_ok c n (by omega)
    have ih := valL_good c n (by omega)
    intro x hx
    rcases List.mem_append.1 hx with h | h
    · exact (ih x (List.mem_of_mem_take h)).up (by omega)
    · rw [List.mem_singleton.1 h]
      exact swV_good _ _ _ _ n (by omega) (Nat.le_trans (textOf_size _) (by decide)) (by omega) ih
theorem valOf_good (c : List Int) : Good 31 (valOf c) := by
  obtain ⟨h1, _⟩ := valL_ok c (min (c.length / 2) 30) (by omega)
  have h2 := valL_good c (min (c.length / 2) 30) (by omega)
  exact (good_mk (d := ((min (c.length / 2) 30 : Nat) : Int)) (by omega) (by simp) (by omega) (by decide) (by simp) h2).up (by omega)
theorem right_vals {k n : Int} {t : ByteArray} {ks : List ByteArray} {vs : List V} (h : rightV (.mk k n t ks vs) = true) : ∀ v ∈ vs, rightV v = true := by
  intro v hv
  obtain ⟨j, hj, rfl⟩ := List.getElem_of_mem hv
  cases hr : rightV vs[j] with
  | true => rfl
  | false => rw [right_no5 (rightsV_at hj hr)] at h; cases h
theorem right_zero : rightV zeroV = true := by kernel_rfl
/-- The part of a value that the samples take. -/
def partV (c : List Int) (b : Int) : V :=
  if (valOf c).vs.length = 0 ∨ rightV (valOf c) = false then zeroV else (valOf c).vs.getD (b.tmod ((valOf c).vs.length : Int)).toNat zeroV
theorem partV_mem (c : List Int) (b : Int) (hb : 0 ≤ b) : partV c b = zeroV ∨ (partV c b ∈ (valOf c).vs ∧ rightV (valOf c) = true) := by
  unfold partV
  split
  · exact .inl rfl
  · rename_i h
    rw [not_or] at h
    refine .inr ⟨getD_mem ?_, by simpa using h.2⟩
    have h1 := Int.tmod_nonneg ((valOf c).vs.length : Int) hb
    have h2 := Int.tmod_lt_of_pos b (by omega : (0 : Int) < ((valOf c).vs.length : Int))
    omega
theorem partV_good (c : List Int) (b : Int) (hb : 0 ≤ b) : Good 30 (partV c b) := by
  rcases partV_mem c b hb with h | ⟨h, _⟩
  · rw [h]; exact good_zero (by decide)
  · exact (valL_good c _ (by omega) _ h).up (by omega)
theorem partV_right (c : List Int) (b : Int) (hb : 0 ≤ b) : rightV (partV c b) = true := by
  rcases partV_mem c b hb with h | ⟨h, h2⟩
  · rw [h]; exact right_zero
  · exact right_vals h2 _ h
theorem part_spec (c : List Int) (hc : Bys c) (b : Int) (hb0 : 0 ≤ b) (hb1 : b < 256) (H : Hp) : ACall Try.prog 19 [u8s c, .v (.int .u8 b)] H (IsR H (.agg (encV (partV c b)))) := by
  have h0 : (valOf c).vs.length = 0 ∨ rightV (valOf c) = false → partV c b = zeroV := fun h => by unfold partV; rw [if_pos h]
  have h1 : ¬ ((valOf c).vs.length = 0 ∨ rightV (valOf c) = false) → partV c b = (valOf c).vs.getD (b.tmod ((valOf c).vs.length : Int)).toNat zeroV := fun h => by unfold partV; rw [if_neg h]
  have hg := valOf_good c
  have hval : ∀ H, ACall Try.prog 43 [u8s c] H (IsR H (.agg (encV (valOf c)))) := val_spec c hc
  generalize valOf c = x at *
  obtain ⟨k, n, t, ks, vs⟩ := x
  simp only [vvs] at h0 h1
  have hvl := encVs_len vs
  by_cases hz : vs.length = 0
  · rw [h0 (.inl hz)]
    refine UCall (n := 28) (H0 := H) (objs := []) Try.func19 (by kernel_rfl) rfl (by rw [Try.ntmps19]; rfl) .nil <| ?_
    focus
      refine Q.rg <| S.dd <| D.al z27 rfl rfl rfl fun p4 => Q.nt <| Q.rg <| Q.mv rfl <| S.qu (Z.call rfl rfl (fun _ => hval _)) <| S.dd <| D.al z27 rfl rfl rfl fun p5 => S.s <| D.st 0 ty27 rfl rfl rfl rfl rfl rfl rfl rfl fun _ => Q.nt <| S.sq <| Q.rg <| Q.fa f27_4 rfl <| Q.lc 0 ty25 rfl rfl rfl <| S.qu (Z.lns sl25 rfl) <| Q.bi rfl rfl rfl <| Q.mv rfl <| ?_
      refine S.tE 12 (fun hc12 => ?_) (fun hc12 => ?_)
      rotate_left
      omega
      refine Q.of <| Q.of <| Q.of <| Q.pk rfl rfl <| Q.nt <| S.cT rfl rfl <| Q.rg <| S.qu (Z.bd [] bt27 rfl rfl rfl rfl rfl rfl) <| S.s <| D.st 1 ty27 rfl rfl rfl rfl rfl rfl rfl rfl fun _ => Q.nt <| UW.ret <| UQ.passR <| S.rtR (fun hd => res_cell (k := 1) hd rfl rfl rfl st27 sz27) <| ?_
      rfl
  · cases hr : rightV (.mk k n t ks vs) with
    | false =>
      rw [h0 (.inr hr)]
      refine UCall (n := 28) (H0 := H) (objs := []) Try.func19 (by kernel_rfl) rfl (by rw [Try.ntmps19]; rfl) .nil <| ?_
      refine Q.rg <| S.dd <| D.al z27 rfl rfl rfl fun p4 => Q.nt <| Q.rg <| Q.mv rfl <| S.qu (Z.call rfl rfl (fun _ => hval _)) <| S.dd <| D.al z27 rfl rfl rfl fun p5 => S.s <| D.st 0 ty27 rfl rfl rfl rfl rfl rfl rfl rfl fun _ => Q.nt <| S.sq <| Q.rg <| Q.fa f27_4 rfl <| Q.lc 0 ty25 rfl rfl rfl <| S.qu (Z.lns sl25 rfl) <| Q.bi rfl rfl rfl <| Q.mv rfl <| ?_
      refine S.tE 12 (fun hc12 => ?_) (fun hc12 => ?_)
      omega
      refine Q.on (Z.ldw 0 ty27 rfl rfl rfl) <| Q.on (Z.eq (Z.call rfl rfl (fun _ => rightR_spec _ hg.1 hg.2.1 _)) (by rw [hr])) <| ?_
      refine Q.on (Z.not rfl) <| Q.pk rfl rfl <| Q.nt <| S.cT rfl rfl <| Q.rg <| S.qu (Z.bd [] bt27 rfl rfl rfl rfl rfl rfl) <| S.s <| D.st 1 ty27 rfl rfl rfl rfl rfl rfl rfl rfl fun _ => Q.nt <| UW.ret <| UQ.passR <| S.rtR (fun hd => res_cell (k := 1) hd rfl rfl rfl st27 sz27) <| ?_
      rfl
    | true =>
      rw [h1 (by simp [hz, hr])]
      have hm0 := Int.tmod_nonneg (vs.length : Int) hb0
      have hm1 := Int.tmod_lt_of_pos b (by omega : (0 : Int) < (vs.length : Int))
      have hkg := kid_get vs (b.tmod (vs.length : Int)).toNat (by omega)
      refine UCall (n := 28) (H0 := H) (objs := []) Try.func19 (by kernel_rfl) rfl (by rw [Try.ntmps19]; rfl) .nil <| ?_
      refine Q.rg <| S.dd <| D.al z27 rfl rfl rfl fun p4 => Q.nt <| Q.rg <| Q.mv rfl <| S.qu (Z.call rfl rfl (fun _ => hval _)) <| S.dd <| D.al z27 rfl rfl rfl fun p5 => S.s <| D.st 0 ty27 rfl rfl rfl rfl rfl rfl rfl rfl fun _ => Q.nt <| S.sq <| Q.rg <| Q.fa f27_4 rfl <| Q.lc 0 ty25 rfl rfl rfl <| S.qu (Z.lns sl25 rfl) <| Q.bi rfl rfl rfl <| Q.mv rfl <| ?_
      refine S.tE 12 (fun hc12 => ?_) (fun hc12 => ?_)
      omega
      refine Q.on (Z.ldw 0 ty27 rfl rfl rfl) <| Q.on (Z.eq (Z.call rfl rfl (fun _ => rightR_spec _ hg.1 hg.2.1 _)) (by rw [hr])) <| ?_
      refine Q.on (Z.not rfl) <| Q.pk rfl rfl <| Q.nt <| S.cF rfl rfl <| UW.skip <| UQ.then <| S.sq <| ?_
      refine' UW.draw' (by kernel_rfl) [0, 1, 0, 4, 0, 16, 48, 124, 255, 511, 1023] [some 18, some 19, some 20, some 21, some 22, some 23, some 24, some 25, some 26, some 27, none] [some (18, _), some (19, _), some (20, _), some (21, _), some (22, _), some (23, _), some (24, _), some (25, _), some (26, _), some (27, _), none] [10] [1, 5, 9] rfl (by decide) (by decide) (QAll.free (by decide) rfl rfl ?q2x0_0 (QAll.held (by decide) rfl rfl ?q2x0_1 (QAll.free (by decide) rfl rfl ?q2x0_2 (QAll.free (by decide) rfl rfl ?q2x0_3 (QAll.free (by decide) rfl rfl ?q2x0_4 (QAll.held (by decide) rfl rfl ?q2x0_5 (QAll.free (by decide) rfl rfl ?q2x0_6 (QAll.free (by decide) rfl rfl ?q2x0_7 (QAll.free (by decide) rfl rfl ?q2x0_8 (QAll.held (by decide) rfl rfl ?q2x0_9 (QAll.skip QAll.nil))))))))))) ?q2x0_k
      case q2x0_0 => exact fun _ => Z.fa f27_4 rfl
      case q2x0_1 => exact Z.ldc 0 ty25 rfl rfl rfl
      case q2x0_2 => exact fun _ => Z.mv rfl
      case q2x0_3 => exact fun _ => Z.cv Try.underlying3 rfl (IntWalk.i64_in _ (by omega)) (by rw [Try.underlying5]; rfl)
      case q2x0_4 => exact fun _ => Z.fa f27_4 rfl
      case q2x0_5 => exact Z.ldc 0 ty25 rfl rfl rfl
      case q2x0_6 => exact fun _ => Z.lns sl25 rfl
      case q2x0_7 => exact fun _ => Z.bi (vr := .int .i64 (b.tmod (vs.length : Int))) rfl rfl (by rw [hvl]; exact if_neg (by omega))
      case q2x0_8 => exact fun _ => Z.ia sl25 rfl rfl (by omega) (by assumption) (by exact encV_len _)
      case q2x0_9 => exact Z.lpa ty27 rfl (encV_len _)
      refine CH.cons0 rfl rfl <| D.stw 1 ty27 rfl rfl rfl rfl (by exact encV_cell _) (encV_len _) rfl rfl fun _ => ?_
      refine CH.nil <| ?_
      simp only [app, finL]
      refine UQ.then <| UW.ret <| S.rtR (fun hd => res_cell (k := 1) hd rfl rfl rfl st27 (by rw [encV_len]; exact sz27)) <| ?_
      rfl
end Go.Proofs.Ytopaddebalfoeaa
