/- Kinds, contents and events of choices. -/
import Derived.Test.YtgmfgmbgmjbdhaaGreatDoorKx38
namespace Go.Proofs.YtgmfgmbgmjbdhaaGreatDoor
open Go Go.RowKit Go.Eng
set_option linter.unusedSimpArgs false
set_option linter.unusedVariables false
set_option maxRecDepth 100000
set_option maxHeartbeats 4000000
def messageB : ByteArray := ⟨#[109, 46, 114, 111, 111, 109, 46, 109, 101, 115, 115, 97, 103, 101]⟩
def tyB : ByteArray := ⟨#[116]⟩
def kindL : List ByteArray := [createB, memberB, powerB, joinsB, aclB, messageB, tyB]
def kindB (k : Int) : ByteArray := kindL.getD (k.tmod 7).toNat ⟨#[]⟩
theorem kind_spec (k : Int) (hk0 : 0 ≤ k) (hk1 : k < 256) (H : Hp) : ACall Tryz.prog 20 [.v (.int .u8 k)] H (IsR H (.v (.string (kindB k)))) := by
  have hm0 := Int.tmod_nonneg 7 hk0
  have hm1 := Int.tmod_lt_of_pos k (by decide : (0 : Int) < 7)
  have hg := strs_get kindL (k.tmod 7).toNat (by show _ < 7; omega)
  have he : kindB k = kindL[(k.tmod 7).toNat]'(by show _ < 7; omega) := getD_at _
  rw [he]
  refine UCall (n := 8) (H0 := H) (objs := []) Tryz.func20 (by kernel_rfl) rfl (by rw [Tryz.ntmps20]; rfl) .nil <| ?_
  refine Q.rg <| Q.as rfl <| Q.nt <| Q.rg <| S.qu (Z.eq (u' := strs kindL) (Z.bl row23 rfl rfl (lit_ok rfl)) rfl) <| Q.mv rfl <| Q.bi rfl rfl rfl <| S.qu (Z.ia sl23 rfl rfl (by omega) hg (by rfl)) <| ?_
  refine S.qu (Z.lpc ty9 rfl) <| Q.as rfl <| Q.nt <| UW.ret <| S.rtR (fun _ => res_tmp rfl rfl) <| ?_
  rfl
def bodyL : List ByteArray := [⟨#[109, 101, 109, 98, 101, 114, 115, 104, 105, 112]⟩, ⟨#[98, 97, 110]⟩, ⟨#[117, 115, 101, 114, 115]⟩, ⟨#[101, 118, 101, 110, 116, 115]⟩, ⟨#[106, 111, 105, 110, 95, 114, 117, 108, 101]⟩, ⟨#[97, 108, 108, 111, 119]⟩, ⟨#[120]⟩, ⟨#[107, 105, 99, 107]⟩, ⟨#[117, 115, 101, 114, 115, 95, 100, 101, 102, 97, 117, 108, 116]⟩, ⟨#[105, 110, 118, 105, 116, 101]⟩]
def joinL : List ByteArray := [⟨#[106, 111, 105, 110]⟩, ⟨#[98, 97, 110]⟩, ⟨#[108, 101, 97, 118, 101]⟩, ⟨#[105, 110, 118, 105, 116, 101]⟩, ⟨#[122]⟩]
def pubL : List ByteArray := [⟨#[112, 117, 98, 108, 105, 99]⟩, ⟨#[105, 110, 118, 105, 116, 101]⟩, ⟨#[110, 111, 110, 101]⟩]
/-- One value of a content. -/
def bodyX (c : List Int) (k : Int) (j : Nat) : V :=
  if (c.getD j 0).tmod 10 = 0 then strV (joinL.getD (((c.getD j 0).tdiv 10).tmod 5).toNat ⟨#[]⟩)
  else if (c.getD j 0).tmod 10 = 4 then strV (pubL.getD (((c.getD j 0).tdiv 10).tmod 3).toNat ⟨#[]⟩)
  else if (c.getD j 0).tmod 10 = 2 ∨ (c.getD j 0).tmod 10 = 3 then partV c (IntKind.u8.wrap (k + (j : Int)))
  else numV ((c.getD j 0).tmod 120 - 10)
def bodyK (c : List Int) (j : Nat) : ByteArray := bodyL.getD ((c.getD j 0).tmod 10).toNat ⟨#[]⟩
def bodyN (c : List Int) (k : Int) : Nat → V
  | 0 => .mk 5 0 ⟨#[]⟩ [] []
  | j + 1 => withV (bodyN c k j) (bodyK c j) (bodyX c k j)
def bodyV (c : List Int) (k : Int) : V := bodyN c k (min c.length 6)
theorem bodyL_le : ∀ s ∈ bodyL, s.size ≤ 20 := by decide
theorem joinL_le : ∀ s ∈ joinL, s.size ≤ 20 := by decide
theorem pubL_le : ∀ s ∈ pubL, s.size ≤ 20 := by decide
theorem kindL_le : ∀ s ∈ kindL, s.size ≤ 20 := by decide
theorem getD_le {l : List ByteArray} {N : Nat} (h : ∀ s ∈ l, s.size ≤ N) (i : Nat) : (l.getD i ⟨#[]⟩).size ≤ N := by
  by_cases hi : i < l.length
  · exact h _ (getD_mem hi)
  · simp only [List.getD, List.getElem?_eq_none (Nat.le_of_not_lt hi)]; exact Nat.zero_le _
theorem strs_getD (l : List ByteArray) (i : Nat) (h : i < l.length) : (l.map encS)[i]? = some (encS (l.getD i ⟨#[]⟩)) := by rw [strs_get l i h, getD_at h]
theorem bodyK_le (c : List Int) (j : Nat) : (bodyK c j).size ≤ 20 := getD_le bodyL_le _
theorem wrap8 (x : Int) : 0 ≤ IntKind.u8.wrap x ∧ IntKind.u8.wrap x < 256 := by rw [IntKind.wrap_u8]; omega
theorem bodyX_good {c : List Int} (hc : Bys c) (k : Int) (j : Nat) : Fits (bodyX c k j) ∧ Wt 100000 (bodyX c k j) := by
  have hs : ∀ t : ByteArray, t.size ≤ 20 → Fits (strV t) ∧ Wt 100000 (strV t) := fun t h => ⟨strV_fits t, .str (by omega)⟩
  have hb := bys_getD hc j
  unfold bodyX
  repeat' split
  · exact hs _ (getD_le joinL_le _)
  · exact hs _ (getD_le pubL_le _)
  · exact ⟨(partV_good c _ (wrap8 _).1).1, part_wt hc _ (wrap8 _).1⟩
  · have h1 := Int.tmod_nonneg 120 hb.1
    have h2 := Int.tmod_lt_of_pos (c.getD j 0) (by decide : (0 : Int) < 120)
    exact ⟨fits_leaf0 _ _ _, .leaf (by omega) (by decide)⟩
theorem bodyN_good {c : List Int} (hc : Bys c) (k : Int) : ∀ j, Ev (bodyN c k j) j ∧ Wt (30 + 100200 * j) (bodyN c k j)
  | 0 => ⟨ev_empty, .leaf (by decide) (by decide)⟩
  | j + 1 => by
    obtain ⟨h1, h2⟩ := bodyN_good hc k j
    obtain ⟨h3, h4⟩ := bodyX_good hc k j
    have h5 := bodyK_le c j
    exact ⟨h1.with (by omega) h3, (h2.with h4 h5).up (by omega)⟩
theorem body_spec (c : List Int) (hc : Bys c) (k : Int) (hk0 : 0 ≤ k) (hk1 : k < 256) (H : Hp) : ACall Tryz.prog 19 [u8s c, .v (.int .u8 k)] H (IsR H (.agg (encV (bodyV c k)))) := by
  have hml : (c.map encB).length = c.length := List.length_map ..
  refine UCall (n := 93) (H0 := H) (objs := []) Tryz.func19 (by kernel_rfl) rfl (by rw [Tryz.ntmps19]; rfl) .nil <| ?_
  refine Q.rg <| S.dd <| D.al z26 rfl rfl rfl fun p4 => Q.nt <| Q.rg <| S.qu (Z.bd [0] bt26 rfl rfl rfl rfl rfl rfl) <| S.dd <| D.al z26 rfl rfl rfl fun p5 => S.s <| D.st 0 ty26 rfl rfl rfl rfl rfl rfl rfl rfl fun _ => Q.nt <| Q.rg <| S.qu (Z.eq (u' := strs bodyL) (Z.bl row23 rfl rfl (lit_ok rfl)) rfl) <| Q.as rfl <| Q.nt <| S.sq <| Q.rg <| Q.as rfl <| Q.nt <| UW.block <| S.loop (fun j : Nat × V => [(7, .v (.int .i64 (j.1 : Int))), (6, strs bodyL), (5, .ptr p5 0), (4, .ptr p4 0), (0, u8s c), (1, .v (.int .u8 k))]) (fun j => [(p5, .box 26 (encV j.2)), (p4, .box 26 (encV zeroV))]) (fun j => j.1 ≤ c.length ∧ j.1 ≤ 6 ∧ j.2 = bodyN c k j.1) (fun j => 6 - j.1) (0, .mk 5 0 ⟨#[]⟩ [] []) ⟨Nat.zero_le _, Nat.zero_le _, rfl⟩ ⟨rfl, rfl, rfl, rfl, rfl, rfl, trivial⟩ (.refl _) <| ?_
  rintro ⟨j, o⟩ ⟨hj, hj6, ho⟩
  dsimp only at hj hj6 ho ⊢
  by_cases hlt : j < c.length
  · by_cases hl6 : j < 6
    · obtain ⟨hg0, hb0, hb1⟩ := bys_get hc hlt
      have hm0 := Int.tmod_nonneg 10 hb0
      have hm1 := Int.tmod_lt_of_pos (c.getD j 0) (by decide : (0 : Int) < 10)
      have hn0 := Int.tmod_nonneg 120 hb0
      have hn1 := Int.tmod_lt_of_pos (c.getD j 0) (by decide : (0 : Int) < 120)
      have hq0 := Int.tdiv_nonneg hb0 (by decide : (0 : Int) ≤ 10)
      have hq1 : (c.getD j 0).tdiv 10 ≤ 25 := by rw [Int.tdiv_eq_ediv_of_nonneg hb0]; omega
      have hwr : IntKind.u8.wrap ((c.getD j 0).tdiv 10) = (c.getD j 0).tdiv 10 := by rw [IntKind.wrap_u8]; omega
      have hr0 := Int.tmod_nonneg 5 hq0
      have hr1 := Int.tmod_lt_of_pos ((c.getD j 0).tdiv 10) (by decide : (0 : Int) < 5)
      have hs0 := Int.tmod_nonneg 3 hq0
      have hs1 := Int.tmod_lt_of_pos ((c.getD j 0).tdiv 10) (by decide : (0 : Int) < 3)
      have hgk : (bodyL.map encS)[((c.getD j 0).tmod 10).toNat]? = some (encS (bodyK c j)) := strs_getD bodyL _ (by show _ < 10; omega)
      have hgj := strs_getD joinL (((c.getD j 0).tdiv 10).tmod 5).toNat (by show _ < 5; omega)
      have hgp := strs_getD pubL (((c.getD j 0).tdiv 10).tmod 3).toNat (by show _ < 3; omega)
      have hw8 := wrap8 (k + (j : Int))
      have hpart := fun H => part_spec c hc (IntKind.u8.wrap (k + (j : Int))) hw8.1 hw8.2 H
      obtain ⟨hev, _⟩ := bodyN_good hc k j
      rw [← ho] at hev
      have hof := hev.fits (by omega)
      have hst : bodyN c k (j + 1) = withV o (bodyK c j) (bodyX c k j) := by rw [ho]; rfl
      have hw : ∀ y H, ACall Tryz.prog 13 [.agg (encV o), .v (.string (bodyK c j)), .agg (encV y)] H (IsR H (.agg (encV (withV o (bodyK c j) y)))) := fun y H => withR_spec o hof hev.keys (bodyK c j) y H
      have hX : bodyX c k j = bodyX c k j := rfl
      conv at hX => rhs; unfold bodyX
      generalize joinL.getD (((c.getD j 0).tdiv 10).tmod 5).toNat ⟨#[]⟩ = tj at *
      generalize pubL.getD (((c.getD j 0).tdiv 10).tmod 3).toNat ⟨#[]⟩ = tp at *
      generalize c.getD j 0 = b at *
      generalize bodyK c j = key at *
      generalize hnx : bodyN c k (j + 1) = nx at *
      have hnx := hnx.symm
      generalize bodyX c k j = x at *
      by_cases h0 : b.tmod 10 = 0
      · rw [if_pos h0] at hX
        focus
          refine S.sq <| Q.rg <| Q.mv rfl <| Q.mv rfl <| S.qu (Z.lns sl22 rfl) <| Q.bi rfl rfl rfl <| Q.mv rfl <| ?_
          refine S.tD 15 (fun hc15 => ?_) (fun hc15 => ?_)
          rotate_left
          omega
          refine Q.on (Z.mv rfl) <| Q.on (Z.bi rfl rfl rfl) <| Q.pk rfl rfl <| Q.nt <| S.cT rfl (decide_eq_true (by omega)) <| UW.skip <| UQ.then <| S.sq <| UW.block <| Q.rg <| Q.mv rfl <| Q.mv rfl <| S.qu (Z.ia sl22 rfl rfl (by omega) (by assumption) (by rfl)) <| ?_
          refine S.qu (Z.lpc ty5 rfl) <| Q.bi rfl rfl rfl <| S.qu (Z.cv Tryz.underlying2 rfl (IntWalk.i64_in _ (by omega)) (by rw [Tryz.underlying5]; rfl)) <| ?_
          refine S.qu (Z.sub rfl rfl (IntWalk.i64_in _ (by omega))) <| S.qu (Z.call rfl rfl (fun H => numR_spec (b.tmod 120 - 10) H)) <| S.dd <| D.al z26 rfl rfl rfl fun p8 => S.s <| D.st 0 ty26 rfl rfl rfl rfl rfl rfl rfl rfl fun _ => Q.nt <| S.sq <| Q.rg <| Q.mv rfl <| Q.mv rfl <| S.qu (Z.ia sl22 rfl rfl (by omega) (by assumption) (by rfl)) <| ?_
          refine S.qu (Z.lpc ty5 rfl) <| Q.bi rfl rfl rfl <| Q.bi rfl rfl rfl <| Q.nt <| S.cT rfl (beq_t (by omega)) <| S.rg <| S.qu (Z.eq (u' := strs joinL) (Z.bl row23 rfl rfl (lit_ok rfl)) rfl) <| Q.mv rfl <| Q.mv rfl <| S.qu (Z.ia sl22 rfl rfl (by omega) (by assumption) (by rfl)) <| ?_
          refine S.qu (Z.lpc ty5 rfl) <| S.qu (Z.eq (u' := .v (.int .u8 (b.tdiv 10))) (Z.bi rfl rfl rfl) (by rw [hwr])) <| ?_
          refine Q.bi rfl rfl rfl <| S.qu (Z.ia sl23 rfl rfl (by omega) hgj (by rfl)) <| ?_
          refine S.qu (Z.lpc ty9 rfl) <| S.qu (Z.call rfl rfl (fun H => strR_spec tj H)) <| S.s <| D.st 0 ty26 rfl rfl rfl rfl rfl rfl rfl rfl fun _ => Q.nt <| S.sq <| Q.rg <| Q.mv rfl <| Q.mv rfl <| S.qu (Z.ia sl22 rfl rfl (by omega) (by assumption) (by rfl)) <| ?_
          refine S.qu (Z.lpc ty5 rfl) <| Q.bi rfl rfl rfl <| Q.bi rfl rfl rfl <| Q.nt <| S.cF rfl (beq_f (by omega)) <| UW.skip <| UQ.then <| S.sq <| Q.rg <| Q.mv rfl <| Q.mv rfl <| S.qu (Z.ia sl22 rfl rfl (by omega) (by assumption) (by rfl)) <| ?_
          refine S.qu (Z.lpc ty5 rfl) <| Q.bi rfl rfl rfl <| Q.bi rfl rfl rfl <| Q.mv rfl <| ?_
          refine S.tE 67 (fun hc67 => ?_) (fun hc67 => ?_)
          omega
          refine Q.on (Z.mv rfl) <| Q.on (Z.mv rfl) <| Q.on (Z.ia sl22 rfl rfl (by omega) (by assumption) (by rfl)) <| ?_
          refine Q.on (Z.lpc ty5 rfl) <| Q.on (Z.bi rfl rfl rfl) <| Q.on (Z.bi rfl rfl rfl) <| Q.pk rfl rfl <| Q.nt <| S.cF rfl (beq_f (by omega)) <| UW.skip <| UQ.then <| ?_
          refine' UW.draw' (by kernel_rfl) [0, 0, 0, 0, 12, 28, 60, 126, 254, 0, 1023, 2047] [some 81, some 82, some 83, some 84, some 85, some 86, some 87, some 88, some 89, some 90, some 91, none] [some (81, _), some (82, _), some (83, _), some (84, _), some (85, _), some (86, _), some (87, _), some (88, _), some (89, _), some (90, _), some (91, _), none] [11] [0, 5, 8, 9] rfl (by decide) (by decide) (QAll.held (by decide) rfl rfl ?q2x0_0 (QAll.free (by decide) rfl rfl ?q2x0_1 (QAll.free (by decide) rfl rfl ?q2x0_2 (QAll.free (by decide) rfl rfl ?q2x0_3 (QAll.free (by decide) rfl rfl ?q2x0_4 (QAll.held (by decide) rfl rfl ?q2x0_5 (QAll.free (by decide) rfl rfl ?q2x0_6 (QAll.free (by decide) rfl rfl ?q2x0_7 (QAll.held (by decide) rfl rfl ?q2x0_8 (QAll.held (by decide) rfl rfl ?q2x0_9 (QAll.free (by decide) rfl rfl ?q2x0_10 (QAll.skip QAll.nil)))))))))))) ?q2x0_k
          case q2x0_0 => exact Z.ldw 1 ty26 rfl rfl (encV_len _)
          case q2x0_1 => (intro _; exact Z.mv rfl)
          case q2x0_2 => (intro _; exact Z.mv rfl)
          case q2x0_3 => (intro _; exact Z.mv rfl)
          case q2x0_4 => (intro _; exact Z.ia sl22 rfl rfl (by omega) (by assumption) (by rfl))
          case q2x0_5 => exact Z.lpc ty5 rfl
          case q2x0_6 => (intro _; exact Z.bi rfl rfl rfl)
          case q2x0_7 => (intro _; exact Z.ia sl23 rfl rfl (by omega) hgk (by rfl))
          case q2x0_8 => exact Z.lpc ty9 rfl
          case q2x0_9 => exact Z.ldw 0 ty26 rfl rfl rfl
          case q2x0_10 => (intro _; exact Z.eq (u' := .agg (encV nx)) (Z.call rfl rfl (fun H => hw (strV tj) H)) (by rw [hst, hX]))
          refine CH.cons0 rfl rfl <| D.stw 1 ty26 rfl rfl rfl rfl (by exact encV_cell _) (encV_len _) (encV_len _) rfl fun _ => ?_
          refine CH.nil <| ?_
          simp only [app, finL]
          refine UQ.blockN <| UQ.then <| S.rg <| Q.mv rfl <| S.qu (Z.add (r := ((j + 1 : Nat) : Int)) rfl rfl (IntWalk.i64_in _ (by omega))) <| Q.as rfl <| US.nil <| ?_
          refine S.back (j + 1, nx) ⟨rfl, rfl, rfl, rfl, rfl, rfl, trivial⟩ (by repeat (first | exact List.Sublist.refl _ | exact List.nil_sublist _ | refine .cons_cons _ ?_ | refine .cons _ ?_)) ?_ (by omega)
        all_goals exact ⟨hlt, hl6, hnx⟩
      · rw [if_neg h0] at hX
        by_cases h4 : b.tmod 10 = 4
        · rw [if_pos h4] at hX
          focus
            refine S.sq <| Q.rg <| Q.mv rfl <| Q.mv rfl <| S.qu (Z.lns sl22 rfl) <| Q.bi rfl rfl rfl <| Q.mv rfl <| ?_
            refine S.tD 15 (fun hc15 => ?_) (fun hc15 => ?_)
            rotate_left
            omega
            refine Q.on (Z.mv rfl) <| Q.on (Z.bi rfl rfl rfl) <| Q.pk rfl rfl <| Q.nt <| S.cT rfl (decide_eq_true (by omega)) <| UW.skip <| UQ.then <| S.sq <| UW.block <| Q.rg <| Q.mv rfl <| Q.mv rfl <| S.qu (Z.ia sl22 rfl rfl (by omega) (by assumption) (by rfl)) <| ?_
            refine S.qu (Z.lpc ty5 rfl) <| Q.bi rfl rfl rfl <| S.qu (Z.cv Tryz.underlying2 rfl (IntWalk.i64_in _ (by omega)) (by rw [Tryz.underlying5]; rfl)) <| ?_
            refine S.qu (Z.sub rfl rfl (IntWalk.i64_in _ (by omega))) <| S.qu (Z.call rfl rfl (fun H => numR_spec (b.tmod 120 - 10) H)) <| S.dd <| D.al z26 rfl rfl rfl fun p8 => S.s <| D.st 0 ty26 rfl rfl rfl rfl rfl rfl rfl rfl fun _ => Q.nt <| S.sq <| Q.rg <| Q.mv rfl <| Q.mv rfl <| S.qu (Z.ia sl22 rfl rfl (by omega) (by assumption) (by rfl)) <| ?_
            refine S.qu (Z.lpc ty5 rfl) <| Q.bi rfl rfl rfl <| Q.bi rfl rfl rfl <| Q.nt <| S.cF rfl (beq_f (by omega)) <| UW.skip <| UQ.then <| S.sq <| Q.rg <| Q.mv rfl <| Q.mv rfl <| S.qu (Z.ia sl22 rfl rfl (by omega) (by assumption) (by rfl)) <| ?_
            refine S.qu (Z.lpc ty5 rfl) <| Q.bi rfl rfl rfl <| Q.bi rfl rfl rfl <| Q.nt <| S.cT rfl (beq_t (by omega)) <| S.rg <| S.qu (Z.eq (u' := strs pubL) (Z.bl row23 rfl rfl (lit_ok rfl)) rfl) <| Q.mv rfl <| Q.mv rfl <| S.qu (Z.ia sl22 rfl rfl (by omega) (by assumption) (by rfl)) <| ?_
            refine S.qu (Z.lpc ty5 rfl) <| S.qu (Z.eq (u' := .v (.int .u8 (b.tdiv 10))) (Z.bi rfl rfl rfl) (by rw [hwr])) <| ?_
            refine Q.bi rfl rfl rfl <| S.qu (Z.ia sl23 rfl rfl (by omega) hgp (by rfl)) <| ?_
            refine S.qu (Z.lpc ty9 rfl) <| S.qu (Z.call rfl rfl (fun H => strR_spec tp H)) <| S.s <| D.st 0 ty26 rfl rfl rfl rfl rfl rfl rfl rfl fun _ => Q.nt <| S.sq <| Q.rg <| Q.mv rfl <| Q.mv rfl <| S.qu (Z.ia sl22 rfl rfl (by omega) (by assumption) (by rfl)) <| ?_
            refine S.qu (Z.lpc ty5 rfl) <| Q.bi rfl rfl rfl <| Q.bi rfl rfl rfl <| Q.mv rfl <| ?_
            refine S.tE 67 (fun hc67 => ?_) (fun hc67 => ?_)
            omega
            refine Q.on (Z.mv rfl) <| Q.on (Z.mv rfl) <| Q.on (Z.ia sl22 rfl rfl (by omega) (by assumption) (by rfl)) <| ?_
            refine Q.on (Z.lpc ty5 rfl) <| Q.on (Z.bi rfl rfl rfl) <| Q.on (Z.bi rfl rfl rfl) <| Q.pk rfl rfl <| Q.nt <| S.cF rfl (beq_f (by omega)) <| UW.skip <| UQ.then <| ?_
            refine' UW.draw' (by kernel_rfl) [0, 0, 0, 0, 12, 28, 60, 126, 254, 0, 1023, 2047] [some 81, some 82, some 83, some 84, some 85, some 86, some 87, some 88, some 89, some 90, some 91, none] [some (81, _), some (82, _), some (83, _), some (84, _), some (85, _), some (86, _), some (87, _), some (88, _), some (89, _), some (90, _), some (91, _), none] [11] [0, 5, 8, 9] rfl (by decide) (by decide) (QAll.held (by decide) rfl rfl ?q3x0_0 (QAll.free (by decide) rfl rfl ?q3x0_1 (QAll.free (by decide) rfl rfl ?q3x0_2 (QAll.free (by decide) rfl rfl ?q3x0_3 (QAll.free (by decide) rfl rfl ?q3x0_4 (QAll.held (by decide) rfl rfl ?q3x0_5 (QAll.free (by decide) rfl rfl ?q3x0_6 (QAll.free (by decide) rfl rfl ?q3x0_7 (QAll.held (by decide) rfl rfl ?q3x0_8 (QAll.held (by decide) rfl rfl ?q3x0_9 (QAll.free (by decide) rfl rfl ?q3x0_10 (QAll.skip QAll.nil)))))))))))) ?q3x0_k
            case q3x0_0 => exact Z.ldw 1 ty26 rfl rfl (encV_len _)
            case q3x0_1 => (intro _; exact Z.mv rfl)
            case q3x0_2 => (intro _; exact Z.mv rfl)
            case q3x0_3 => (intro _; exact Z.mv rfl)
            case q3x0_4 => (intro _; exact Z.ia sl22 rfl rfl (by omega) (by assumption) (by rfl))
            case q3x0_5 => exact Z.lpc ty5 rfl
            case q3x0_6 => (intro _; exact Z.bi rfl rfl rfl)
            case q3x0_7 => (intro _; exact Z.ia sl23 rfl rfl (by omega) hgk (by rfl))
            case q3x0_8 => exact Z.lpc ty9 rfl
            case q3x0_9 => exact Z.ldw 0 ty26 rfl rfl rfl
            case q3x0_10 => (intro _; exact Z.eq (u' := .agg (encV nx)) (Z.call rfl rfl (fun H => hw (strV tp) H)) (by rw [hst, hX]))
            refine CH.cons0 rfl rfl <| D.stw 1 ty26 rfl rfl rfl rfl (by exact encV_cell _) (encV_len _) (encV_len _) rfl fun _ => ?_
            refine CH.nil <| ?_
            simp only [app, finL]
            refine UQ.blockN <| UQ.then <| S.rg <| Q.mv rfl <| S.qu (Z.add (r := ((j + 1 : Nat) : Int)) rfl rfl (IntWalk.i64_in _ (by omega))) <| Q.as rfl <| US.nil <| ?_
            refine S.back (j + 1, nx) ⟨rfl, rfl, rfl, rfl, rfl, rfl, trivial⟩ (by repeat (first | exact List.Sublist.refl _ | exact List.nil_sublist _ | refine .cons_cons _ ?_ | refine .cons _ ?_)) ?_ (by omega)
          all_goals exact ⟨hlt, hl6, hnx⟩
        · rw [if_neg h4] at hX
          by_cases h2 : b.tmod 10 = 2 ∨ b.tmod 10 = 3
          · rw [if_pos h2] at hX
            focus
              refine S.sq <| Q.rg <| Q.mv rfl <| Q.mv rfl <| S.qu (Z.lns sl22 rfl) <| Q.bi rfl rfl rfl <| Q.mv rfl <| ?_
              refine S.tD 15 (fun hc15 => ?_) (fun hc15 => ?_)
              rotate_left
              omega
              refine Q.on (Z.mv rfl) <| Q.on (Z.bi rfl rfl rfl) <| Q.pk rfl rfl <| Q.nt <| S.cT rfl (decide_eq_true (by omega)) <| UW.skip <| UQ.then <| S.sq <| UW.block <| Q.rg <| Q.mv rfl <| Q.mv rfl <| S.qu (Z.ia sl22 rfl rfl (by omega) (by assumption) (by rfl)) <| ?_
              refine S.qu (Z.lpc ty5 rfl) <| Q.bi rfl rfl rfl <| S.qu (Z.cv Tryz.underlying2 rfl (IntWalk.i64_in _ (by omega)) (by rw [Tryz.underlying5]; rfl)) <| ?_
              refine S.qu (Z.sub rfl rfl (IntWalk.i64_in _ (by omega))) <| S.qu (Z.call rfl rfl (fun H => numR_spec (b.tmod 120 - 10) H)) <| S.dd <| D.al z26 rfl rfl rfl fun p8 => S.s <| D.st 0 ty26 rfl rfl rfl rfl rfl rfl rfl rfl fun _ => Q.nt <| S.sq <| Q.rg <| Q.mv rfl <| Q.mv rfl <| S.qu (Z.ia sl22 rfl rfl (by omega) (by assumption) (by rfl)) <| ?_
              refine S.qu (Z.lpc ty5 rfl) <| Q.bi rfl rfl rfl <| Q.bi rfl rfl rfl <| Q.nt <| S.cF rfl (beq_f (by omega)) <| UW.skip <| UQ.then <| S.sq <| Q.rg <| Q.mv rfl <| Q.mv rfl <| S.qu (Z.ia sl22 rfl rfl (by omega) (by assumption) (by rfl)) <| ?_
              refine S.qu (Z.lpc ty5 rfl) <| Q.bi rfl rfl rfl <| Q.bi rfl rfl rfl <| Q.nt <| S.cF rfl (beq_f (by omega)) <| UW.skip <| UQ.then <| S.sq <| Q.rg <| Q.mv rfl <| Q.mv rfl <| S.qu (Z.ia sl22 rfl rfl (by omega) (by assumption) (by rfl)) <| ?_
              refine S.qu (Z.lpc ty5 rfl) <| Q.bi rfl rfl rfl <| Q.bi rfl rfl rfl <| Q.mv rfl <| ?_
              refine S.tE 67 (fun hc67 => ?_) (fun hc67 => ?_)
              refine Q.of <| Q.of <| Q.of <| Q.of <| Q.of <| Q.of <| Q.pk rfl rfl <| Q.nt <| S.cT rfl rfl <| S.rg <| Q.mv rfl <| Q.mv rfl <| Q.mv rfl <| S.qu (Z.cv Tryz.underlying5 rfl (IntWalk.u8_in _ (by omega)) (by rw [Tryz.underlying3]; rfl)) <| ?_
              refine S.qu (Z.add rfl rfl rfl) <| S.qu (Z.call rfl rfl (fun H => hpart H)) <| S.s <| D.stw 0 ty26 rfl rfl rfl rfl (by exact encV_cell _) (encV_len _) rfl rfl fun _ => ?_
              refine Q.nt <| ?_
              refine' UW.draw' (by kernel_rfl) [0, 0, 0, 0, 12, 28, 60, 126, 254, 0, 1023, 2047] [some 81, some 82, some 83, some 84, some 85, some 86, some 87, some 88, some 89, some 90, some 91, none] [some (81, _), some (82, _), some (83, _), some (84, _), some (85, _), some (86, _), some (87, _), some (88, _), some (89, _), some (90, _), some (91, _), none] [11] [0, 5, 8, 9] rfl (by decide) (by decide) (QAll.held (by decide) rfl rfl ?q4x0_0 (QAll.free (by decide) rfl rfl ?q4x0_1 (QAll.free (by decide) rfl rfl ?q4x0_2 (QAll.free (by decide) rfl rfl ?q4x0_3 (QAll.free (by decide) rfl rfl ?q4x0_4 (QAll.held (by decide) rfl rfl ?q4x0_5 (QAll.free (by decide) rfl rfl ?q4x0_6 (QAll.free (by decide) rfl rfl ?q4x0_7 (QAll.held (by decide) rfl rfl ?q4x0_8 (QAll.held (by decide) rfl rfl ?q4x0_9 (QAll.free (by decide) rfl rfl ?q4x0_10 (QAll.skip QAll.nil)))))))))))) ?q4x0_k
              case q4x0_0 => exact Z.ldw 1 ty26 rfl rfl (encV_len _)
              case q4x0_1 => (intro _; exact Z.mv rfl)
              case q4x0_2 => (intro _; exact Z.mv rfl)
              case q4x0_3 => (intro _; exact Z.mv rfl)
              case q4x0_4 => (intro _; exact Z.ia sl22 rfl rfl (by omega) (by assumption) (by rfl))
              case q4x0_5 => exact Z.lpc ty5 rfl
              case q4x0_6 => (intro _; exact Z.bi rfl rfl rfl)
              case q4x0_7 => (intro _; exact Z.ia sl23 rfl rfl (by omega) hgk (by rfl))
              case q4x0_8 => exact Z.lpc ty9 rfl
              case q4x0_9 => exact Z.ldw 0 ty26 rfl rfl (encV_len _)
              case q4x0_10 => (intro _; exact Z.eq (u' := .agg (encV nx)) (Z.call rfl rfl (fun H => hw (partV c (IntKind.u8.wrap (k + (j : Int)))) H)) (by rw [hst, hX]))
              refine CH.cons0 rfl rfl <| D.stw 1 ty26 rfl rfl rfl rfl (by exact encV_cell _) (encV_len _) (encV_len _) rfl fun _ => ?_
              refine CH.nil <| ?_
              simp only [app, finL]
              refine UQ.blockN <| UQ.then <| S.rg <| Q.mv rfl <| S.qu (Z.add (r := ((j + 1 : Nat) : Int)) rfl rfl (IntWalk.i64_in _ (by omega))) <| Q.as rfl <| US.nil <| ?_
              refine S.back (j + 1, nx) ⟨rfl, rfl, rfl, rfl, rfl, rfl, trivial⟩ (by repeat (first | exact List.Sublist.refl _ | exact List.nil_sublist _ | refine .cons_cons _ ?_ | refine .cons _ ?_)) ?_ (by omega)
              rotate_left
              refine Q.on (Z.mv rfl) <| Q.on (Z.mv rfl) <| Q.on (Z.ia sl22 rfl rfl (by omega) (by assumption) (by rfl)) <| ?_
              refine Q.on (Z.lpc ty5 rfl) <| Q.on (Z.bi rfl rfl rfl) <| Q.on (Z.bi rfl rfl rfl) <| Q.pk rfl rfl <| Q.nt <| S.cT rfl (beq_t (by omega)) <| S.rg <| Q.mv rfl <| Q.mv rfl <| Q.mv rfl <| S.qu (Z.cv Tryz.underlying5 rfl (IntWalk.u8_in _ (by omega)) (by rw [Tryz.underlying3]; rfl)) <| ?_
              refine S.qu (Z.add rfl rfl rfl) <| S.qu (Z.call rfl rfl (fun H => hpart H)) <| S.s <| D.stw 0 ty26 rfl rfl rfl rfl (by exact encV_cell _) (encV_len _) rfl rfl fun _ => ?_
              refine Q.nt <| ?_
              refine' UW.draw' (by kernel_rfl) [0, 0, 0, 0, 12, 28, 60, 126, 254, 0, 1023, 2047] [some 81, some 82, some 83, some 84, some 85, some 86, some 87, some 88, some 89, some 90, some 91, none] [some (81, _), some (82, _), some (83, _), some (84, _), some (85, _), some (86, _), some (87, _), some (88, _), some (89, _), some (90, _), some (91, _), none] [11] [0, 5, 8, 9] rfl (by decide) (by decide) (QAll.held (by decide) rfl rfl ?q4x1_0 (QAll.free (by decide) rfl rfl ?q4x1_1 (QAll.free (by decide) rfl rfl ?q4x1_2 (QAll.free (by decide) rfl rfl ?q4x1_3 (QAll.free (by decide) rfl rfl ?q4x1_4 (QAll.held (by decide) rfl rfl ?q4x1_5 (QAll.free (by decide) rfl rfl ?q4x1_6 (QAll.free (by decide) rfl rfl ?q4x1_7 (QAll.held (by decide) rfl rfl ?q4x1_8 (QAll.held (by decide) rfl rfl ?q4x1_9 (QAll.free (by decide) rfl rfl ?q4x1_10 (QAll.skip QAll.nil)))))))))))) ?q4x1_k
              case q4x1_0 => exact Z.ldw 1 ty26 rfl rfl (encV_len _)
              case q4x1_1 => (intro _; exact Z.mv rfl)
              case q4x1_2 => (intro _; exact Z.mv rfl)
              case q4x1_3 => (intro _; exact Z.mv rfl)
              case q4x1_4 => (intro _; exact Z.ia sl22 rfl rfl (by omega) (by assumption) (by rfl))
              case q4x1_5 => exact Z.lpc ty5 rfl
              case q4x1_6 => (intro _; exact Z.bi rfl rfl rfl)
              case q4x1_7 => (intro _; exact Z.ia sl23 rfl rfl (by omega) hgk (by rfl))
              case q4x1_8 => exact Z.lpc ty9 rfl
              case q4x1_9 => exact Z.ldw 0 ty26 rfl rfl (encV_len _)
              case q4x1_10 => (intro _; exact Z.eq (u' := .agg (encV nx)) (Z.call rfl rfl (fun H => hw (partV c (IntKind.u8.wrap (k + (j : Int)))) H)) (by rw [hst, hX]))
              refine CH.cons0 rfl rfl <| D.stw 1 ty26 rfl rfl rfl rfl (by exact encV_cell _) (encV_len _) (encV_len _) rfl fun _ => ?_
              refine CH.nil <| ?_
              simp only [app, finL]
              refine UQ.blockN <| UQ.then <| S.rg <| Q.mv rfl <| S.qu (Z.add (r := ((j + 1 : Nat) : Int)) rfl rfl (IntWalk.i64_in _ (by omega))) <| Q.as rfl <| US.nil <| ?_
              refine S.back (j + 1, nx) ⟨rfl, rfl, rfl, rfl, rfl, rfl, trivial⟩ (by repeat (first | exact List.Sublist.refl _ | exact List.nil_sublist _ | refine .cons_cons _ ?_ | refine .cons _ ?_)) ?_ (by omega)
              rotate_left
            all_goals exact ⟨hlt, hl6, hnx⟩
          · rw [if_neg h2] at hX
            focus
              refine S.sq <| Q.rg <| Q.mv rfl <| Q.mv rfl <| S.qu (Z.lns sl22 rfl) <| Q.bi rfl rfl rfl <| Q.mv rfl <| ?_
              refine S.tD 15 (fun hc15 => ?_) (fun hc15 => ?_)
              rotate_left
              omega
              refine Q.on (Z.mv rfl) <| Q.on (Z.bi rfl rfl rfl) <| Q.pk rfl rfl <| Q.nt <| S.cT rfl (decide_eq_true (by omega)) <| UW.skip <| UQ.then <| S.sq <| UW.block <| Q.rg <| Q.mv rfl <| Q.mv rfl <| S.qu (Z.ia sl22 rfl rfl (by omega) (by assumption) (by rfl)) <| ?_
              refine S.qu (Z.lpc ty5 rfl) <| Q.bi rfl rfl rfl <| S.qu (Z.cv Tryz.underlying2 rfl (IntWalk.i64_in _ (by omega)) (by rw [Tryz.underlying5]; rfl)) <| ?_
              refine S.qu (Z.sub rfl rfl (IntWalk.i64_in _ (by omega))) <| S.qu (Z.call rfl rfl (fun H => numR_spec (b.tmod 120 - 10) H)) <| S.dd <| D.al z26 rfl rfl rfl fun p8 => S.s <| D.st 0 ty26 rfl rfl rfl rfl rfl rfl rfl rfl fun _ => Q.nt <| S.sq <| Q.rg <| Q.mv rfl <| Q.mv rfl <| S.qu (Z.ia sl22 rfl rfl (by omega) (by assumption) (by rfl)) <| ?_
              refine S.qu (Z.lpc ty5 rfl) <| Q.bi rfl rfl rfl <| Q.bi rfl rfl rfl <| Q.nt <| S.cF rfl (beq_f (by omega)) <| UW.skip <| UQ.then <| S.sq <| Q.rg <| Q.mv rfl <| Q.mv rfl <| S.qu (Z.ia sl22 rfl rfl (by omega) (by assumption) (by rfl)) <| ?_
              refine S.qu (Z.lpc ty5 rfl) <| Q.bi rfl rfl rfl <| Q.bi rfl rfl rfl <| Q.nt <| S.cF rfl (beq_f (by omega)) <| UW.skip <| UQ.then <| S.sq <| Q.rg <| Q.mv rfl <| Q.mv rfl <| S.qu (Z.ia sl22 rfl rfl (by omega) (by assumption) (by rfl)) <| ?_
              refine S.qu (Z.lpc ty5 rfl) <| Q.bi rfl rfl rfl <| Q.bi rfl rfl rfl <| Q.mv rfl <| ?_
              refine S.tE 67 (fun hc67 => ?_) (fun hc67 => ?_)
              omega
              refine Q.on (Z.mv rfl) <| Q.on (Z.mv rfl) <| Q.on (Z.ia sl22 rfl rfl (by omega) (by assumption) (by rfl)) <| ?_
              refine Q.on (Z.lpc ty5 rfl) <| Q.on (Z.bi rfl rfl rfl) <| Q.on (Z.bi rfl rfl rfl) <| Q.pk rfl rfl <| Q.nt <| S.cF rfl (beq_f (by omega)) <| UW.skip <| UQ.then <| ?_
              refine' UW.draw' (by kernel_rfl) [0, 0, 0, 0, 12, 28, 60, 126, 254, 0, 1023, 2047] [some 81, some 82, some 83, some 84, some 85, some 86, some 87, some 88, some 89, some 90, some 91, none] [some (81, _), some (82, _), some (83, _), some (84, _), some (85, _), some (86, _), some (87, _), some (88, _), some (89, _), some (90, _), some (91, _), none] [11] [0, 5, 8, 9] rfl (by decide) (by decide) (QAll.held (by decide) rfl rfl ?q5x0_0 (QAll.free (by decide) rfl rfl ?q5x0_1 (QAll.free (by decide) rfl rfl ?q5x0_2 (QAll.free (by decide) rfl rfl ?q5x0_3 (QAll.free (by decide) rfl rfl ?q5x0_4 (QAll.held (by decide) rfl rfl ?q5x0_5 (QAll.free (by decide) rfl rfl ?q5x0_6 (QAll.free (by decide) rfl rfl ?q5x0_7 (QAll.held (by decide) rfl rfl ?q5x0_8 (QAll.held (by decide) rfl rfl ?q5x0_9 (QAll.free (by decide) rfl rfl ?q5x0_10 (QAll.skip QAll.nil)))))))))))) ?q5x0_k
              case q5x0_0 => exact Z.ldw 1 ty26 rfl rfl (encV_len _)
              case q5x0_1 => (intro _; exact Z.mv rfl)
              case q5x0_2 => (intro _; exact Z.mv rfl)
              case q5x0_3 => (intro _; exact Z.mv rfl)
              case q5x0_4 => (intro _; exact Z.ia sl22 rfl rfl (by omega) (by assumption) (by rfl))
              case q5x0_5 => exact Z.lpc ty5 rfl
              case q5x0_6 => (intro _; exact Z.bi rfl rfl rfl)
              case q5x0_7 => (intro _; exact Z.ia sl23 rfl rfl (by omega) hgk (by rfl))
              case q5x0_8 => exact Z.lpc ty9 rfl
              case q5x0_9 => exact Z.ldw 0 ty26 rfl rfl rfl
              case q5x0_10 => (intro _; exact Z.eq (u' := .agg (encV nx)) (Z.call rfl rfl (fun H => hw (numV (b.tmod 120 - 10)) H)) (by rw [hst, hX]))
              refine CH.cons0 rfl rfl <| D.stw 1 ty26 rfl rfl rfl rfl (by exact encV_cell _) (encV_len _) (encV_len _) rfl fun _ => ?_
              refine CH.nil <| ?_
              simp only [app, finL]
              refine UQ.blockN <| UQ.then <| S.rg <| Q.mv rfl <| S.qu (Z.add (r := ((j + 1 : Nat) : Int)) rfl rfl (IntWalk.i64_in _ (by omega))) <| Q.as rfl <| US.nil <| ?_
              refine S.back (j + 1, nx) ⟨rfl, rfl, rfl, rfl, rfl, rfl, trivial⟩ (by repeat (first | exact List.Sublist.refl _ | exact List.nil_sublist _ | refine .cons_cons _ ?_ | refine .cons _ ?_)) ?_ (by omega)
            all_goals exact ⟨hlt, hl6, hnx⟩
    · focus
        refine S.sq <| Q.rg <| Q.mv rfl <| Q.mv rfl <| S.qu (Z.lns sl22 rfl) <| Q.bi rfl rfl rfl <| Q.mv rfl <| ?_
        refine S.tD 15 (fun hc15 => ?_) (fun hc15 => ?_)
        rotate_left
        omega
        refine Q.on (Z.mv rfl) <| Q.on (Z.bi rfl rfl rfl) <| Q.pk rfl rfl <| Q.nt <| S.cF rfl (decide_eq_false (by omega)) <| UW.exit <| UQ.pass <| UQ.pass <| UQ.here <| UQ.then <| Q.rg <| S.qu (Z.ldw 0 ty26 rfl rfl (encV_len _)) <| S.s <| D.stw 1 ty26 rfl rfl rfl rfl (by exact encV_cell _) (encV_len _) rfl rfl fun _ => ?_
        refine Q.nt <| UW.ret <| S.rtR (fun hd => res_cell (k := 1) hd rfl rfl rfl st26 (by rw [encV_len]; exact sz26)) <| ?_
      rw [ho, show j = min c.length 6 from by omega]; rfl
  · refine S.sq <| Q.rg <| Q.mv rfl <| Q.mv rfl <| S.qu (Z.lns sl22 rfl) <| Q.bi rfl rfl rfl <| Q.mv rfl <| ?_
    refine S.tD 15 (fun hc15 => ?_) (fun hc15 => ?_)
    omega
    refine Q.of <| Q.of <| Q.pk rfl rfl <| Q.nt <| S.cF rfl rfl <| UW.exit <| UQ.pass <| UQ.pass <| UQ.here <| UQ.then <| Q.rg <| S.qu (Z.ldw 0 ty26 rfl rfl (encV_len _)) <| S.s <| D.stw 1 ty26 rfl rfl rfl rfl (by exact encV_cell _) (encV_len _) rfl rfl fun _ => ?_
    refine Q.nt <| UW.ret <| S.rtR (fun hd => res_cell (k := 1) hd rfl rfl rfl st26 (by rw [encV_len]; exact sz26)) <| ?_
    rw [ho, show j = min c.length 6 from by omega]; rfl
end Go.Proofs.YtgmfgmbgmjbdhaaGreatDoor
