/- Events of choices. · Objects are told by what their keys have. · The name of an event. · RedactSeal: what is sealed has the right hash, whatever is unsigned; with another field, just where all of it has the same hash. -/
import Derived.Test.YtgmfgmbgmjbdhaaGreatDoorKx39
section
namespace Go.Proofs.YtgmfgmbgmjbdhaaGreatDoor
open Go Go.RowKit Go.Eng
set_option linter.unusedSimpArgs false
set_option linter.unusedVariables false
set_option maxRecDepth 100000
set_option maxHeartbeats 4000000
def wideL : List ByteArray := [⟨#[116, 121, 112, 101]⟩, ⟨#[99, 111, 110, 116, 101, 110, 116]⟩, ⟨#[115, 101, 110, 100, 101, 114]⟩, ⟨#[117, 110, 115, 105, 103, 110, 101, 100]⟩, ⟨#[104, 97, 115, 104, 101, 115]⟩, ⟨#[100, 101, 112, 116, 104]⟩, ⟨#[121]⟩, ⟨#[115, 116, 97, 116, 101, 95, 107, 101, 121]⟩, ⟨#[112, 114, 101, 118, 95, 101, 118, 101, 110, 116, 115]⟩]
theorem wideL_le : ∀ s ∈ wideL, s.size ≤ 20 := by decide
def wideX (c : List Int) (k : Int) (j : Nat) : V :=
  if (c.getD j 0).tmod 9 = 0 ∧ (c.getD j 0) > 40 then strV (kindB ((c.getD j 0).tdiv 9))
  else if (c.getD j 0).tmod 9 = 1 then bodyV (c.drop j) k
  else partV (c.drop j) k
def wideK (c : List Int) (j : Nat) : ByteArray := wideL.getD ((c.getD j 0).tmod 9).toNat ⟨#[]⟩
def wideN (c : List Int) (k : Int) : Nat → V
  | 0 => .mk 5 0 ⟨#[]⟩ [] []
  | j + 1 => withV (wideN c k j) (wideK c j) (wideX c k j)
def wideV (c : List Int) (k : Int) : V := wideN c k (min c.length 18)
theorem wideK_le (c : List Int) (j : Nat) : (wideK c j).size ≤ 20 := getD_le wideL_le _
theorem Bys.drop {c : List Int} (hc : Bys c) (m : Nat) : Bys (c.drop m) := fun b hb => hc b (List.mem_of_mem_drop hb)
theorem body_good {c : List Int} (hc : Bys c) (k : Int) : Ev (bodyV c k) 6 ∧ Wt 700000 (bodyV c k) := by
  obtain ⟨h1, h2⟩ := bodyN_good hc k (min c.length 6)
  exact ⟨⟨h1.k, h1.len, h1.asc, by have := h1.le; show (bodyN c k (min c.length 6)).ks.length ≤ 6; omega, h1.keys, h1.vals⟩, h2.up (by omega)⟩
theorem wideX_good {c : List Int} (hc : Bys c) (k : Int) (hk : 0 ≤ k) (j : Nat) : Fits (wideX c k j) ∧ Wt 700000 (wideX c k j) := by
  unfold wideX
  repeat' split
  · exact ⟨strV_fits _, .str (by have := getD_le kindL_le (((c.getD j 0).tdiv 9).tmod 7).toNat; unfold kindB; omega)⟩
  · exact ⟨(body_good (hc.drop j) k).1.fits (by decide), (body_good (hc.drop j) k).2⟩
  · exact ⟨(partV_good _ _ hk).1, (part_wt (hc.drop j) _ hk).up (by decide)⟩
theorem wideN_good {c : List Int} (hc : Bys c) (k : Int) (hk : 0 ≤ k) : ∀ j, Ev (wideN c k j) j ∧ Wt (30 + 700200 * j) (wideN c k j)
  | 0 => ⟨ev_empty, .leaf (by decide) (by decide)⟩
  | j + 1 => by
    obtain ⟨h1, h2⟩ := wideN_good hc k hk j
    obtain ⟨h3, h4⟩ := wideX_good hc k hk j
    have h5 := wideK_le c j
    exact ⟨h1.with (by omega) h3, (h2.with h4 h5).up (by omega)⟩
theorem wide_good {c : List Int} (hc : Bys c) (k : Int) (hk : 0 ≤ k) : Ev (wideV c k) 18 ∧ Wt 20000000 (wideV c k) := by
  obtain ⟨h1, h2⟩ := wideN_good hc k hk (min c.length 18)
  exact ⟨⟨h1.k, h1.len, h1.asc, by have := h1.le; show (wideN c k (min c.length 18)).ks.length ≤ 18; omega, h1.keys, h1.vals⟩, h2.up (by omega)⟩
theorem wide_spec (c : List Int) (hc : Bys c) (k : Int) (hk0 : 0 ≤ k) (hk1 : k < 256) (H : Hp) : ACall Tryz.prog 10 [u8s c, .v (.int .u8 k)] H (IsR H (.agg (encV (wideV c k)))) := by
  have hml : (c.map encB).length = c.length := List.length_map ..
  refine UCall (n := 69) (H0 := H) (objs := []) Tryz.func10 (by kernel_rfl) rfl (by rw [Tryz.ntmps10]; rfl) .nil <| ?_
  refine Q.rg <| S.dd <| D.al z26 rfl rfl rfl fun p4 => Q.nt <| Q.rg <| S.qu (Z.bd [0] bt26 rfl rfl rfl rfl rfl rfl) <| S.dd <| D.al z26 rfl rfl rfl fun p5 => S.s <| D.st 0 ty26 rfl rfl rfl rfl rfl rfl rfl rfl fun _ => Q.nt <| Q.rg <| S.qu (Z.eq (u' := strs wideL) (Z.bl row23 rfl rfl (lit_ok rfl)) rfl) <| Q.as rfl <| Q.nt <| S.sq <| Q.rg <| Q.as rfl <| Q.nt <| UW.block <| S.loop (fun j : Nat × V => [(7, .v (.int .i64 (j.1 : Int))), (6, strs wideL), (5, .ptr p5 0), (4, .ptr p4 0), (0, u8s c), (1, .v (.int .u8 k))]) (fun j => [(p5, .box 26 (encV j.2)), (p4, .box 26 (encV zeroV))]) (fun j => j.1 ≤ c.length ∧ j.1 ≤ 18 ∧ j.2 = wideN c k j.1) (fun j => 18 - j.1) (0, .mk 5 0 ⟨#[]⟩ [] []) ⟨Nat.zero_le _, Nat.zero_le _, rfl⟩ ⟨rfl, rfl, rfl, rfl, rfl, rfl, trivial⟩ (.refl _) <| ?_
  rintro ⟨j, o⟩ ⟨hj, hj6, ho⟩
  dsimp only at hj hj6 ho ⊢
  by_cases hlt : j < c.length
  · by_cases hl6 : j < 18
    · obtain ⟨hg0, hb0, hb1⟩ := bys_get hc hlt
      have hm0 := Int.tmod_nonneg 9 hb0
      have hm1 := Int.tmod_lt_of_pos (c.getD j 0) (by decide : (0 : Int) < 9)
      have hq0 := Int.tdiv_nonneg hb0 (by decide : (0 : Int) ≤ 9)
      have hq1 : (c.getD j 0).tdiv 9 ≤ 28 := by rw [Int.tdiv_eq_ediv_of_nonneg hb0]; omega
      have hwr : IntKind.u8.wrap ((c.getD j 0).tdiv 9) = (c.getD j 0).tdiv 9 := by rw [IntKind.wrap_u8]; omega
      have hgk : (wideL.map encS)[((c.getD j 0).tmod 9).toNat]? = some (encS (wideK c j)) := strs_getD wideL _ (by show _ < 9; omega)
      have hpart := fun H => part_spec (c.drop j) (hc.drop j) k hk0 hk1 H
      have hbody := fun H => body_spec (c.drop j) (hc.drop j) k hk0 hk1 H
      have hbf := (body_good (hc.drop j) k).1.fits (by decide)
      have hkind := fun H => kind_spec ((c.getD j 0).tdiv 9) hq0 (by omega) H
      have hcut : AV.sl (((c.map encB).take c.length).drop j) = u8s (c.drop j) := by unfold u8s; rw [← hml, List.take_length, List.map_drop]
      obtain ⟨hev, _⟩ := wideN_good hc k hk0 j
      rw [← ho] at hev
      have hof := hev.fits (by omega)
      have hst : wideN c k (j + 1) = withV o (wideK c j) (wideX c k j) := by rw [ho]; rfl
      have hw : ∀ y H, ACall Tryz.prog 13 [.agg (encV o), .v (.string (wideK c j)), .agg (encV y)] H (IsR H (.agg (encV (withV o (wideK c j) y)))) := fun y H => withR_spec o hof hev.keys (wideK c j) y H
      have hX : wideX c k j = wideX c k j := rfl
      conv at hX => rhs; unfold wideX
      generalize c.getD j 0 = b at *
      generalize wideK c j = key at *
      generalize hnx : wideN c k (j + 1) = nx at *
      have hnx := hnx.symm
      generalize wideX c k j = x at *
      generalize partV (c.drop j) k = pt at *
      generalize bodyV (c.drop j) k = bd at *
      generalize kindB (b.tdiv 9) = kd at *
      by_cases h0 : b.tmod 9 = 0 ∧ b > 40
      · rw [if_pos h0] at hX
        have h00 := h0.1
        have h01 := h0.2
        focus
          refine S.sq <| Q.rg <| Q.mv rfl <| Q.mv rfl <| S.qu (Z.lns sl22 rfl) <| Q.bi rfl rfl rfl <| Q.mv rfl <| ?_
          refine S.tD 15 (fun hc15 => ?_) (fun hc15 => ?_)
          rotate_left
          omega
          refine Q.on (Z.mv rfl) <| Q.on (Z.bi rfl rfl rfl) <| Q.pk rfl rfl <| Q.nt <| S.cT rfl (decide_eq_true (by omega)) <| UW.skip <| UQ.then <| S.sq <| UW.block <| Q.rg <| Q.mv rfl <| Q.mv rfl <| S.qu (Z.eq (u' := u8s (c.drop j)) (Z.sls sl22 rfl (u8s_sz _) (.lo rfl) (by omega) (by omega) rfl) (by rw [hml]; exact hcut)) <| ?_
          refine Q.mv rfl <| S.qu (Z.call rfl rfl (fun H => hpart H)) <| S.dd <| D.al z26 rfl rfl rfl fun p8 => S.s <| D.stw 0 ty26 rfl rfl rfl rfl (by exact encV_cell _) (encV_len _) rfl rfl fun _ => ?_
          refine Q.nt <| S.sq <| Q.rg <| Q.mv rfl <| Q.mv rfl <| S.qu (Z.ia sl22 rfl rfl (by omega) (by assumption) (by rfl)) <| ?_
          refine S.qu (Z.lpc ty5 rfl) <| Q.bi rfl rfl rfl <| Q.bi rfl rfl rfl <| Q.mv rfl <| S.tT 32 (beq_t (by omega)) <| Q.on (Z.mv rfl) <| Q.on (Z.mv rfl) <| Q.on (Z.ia sl22 rfl rfl (by omega) (by assumption) (by rfl)) <| ?_
          refine Q.on (Z.lpc ty5 rfl) <| Q.on (Z.bi rfl rfl rfl) <| Q.pk rfl rfl <| Q.nt <| S.cT rfl (decide_eq_true (by omega)) <| S.rg <| Q.mv rfl <| Q.mv rfl <| S.qu (Z.ia sl22 rfl rfl (by omega) (by assumption) (by rfl)) <| ?_
          refine S.qu (Z.lpc ty5 rfl) <| S.qu (Z.eq (u' := .v (.int .u8 (b.tdiv 9))) (Z.bi rfl rfl rfl) (by rw [hwr])) <| ?_
          refine S.qu (Z.call rfl rfl (fun H => hkind H)) <| S.qu (Z.call rfl rfl (fun H => strR_spec kd H)) <| S.s <| D.stw 0 ty26 rfl rfl rfl rfl rfl rfl (encV_len _) rfl fun _ => Q.nt <| S.sq <| Q.rg <| Q.mv rfl <| Q.mv rfl <| S.qu (Z.ia sl22 rfl rfl (by omega) (by assumption) (by rfl)) <| ?_
          refine S.qu (Z.lpc ty5 rfl) <| Q.bi rfl rfl rfl <| Q.bi rfl rfl rfl <| Q.nt <| S.cF rfl (beq_f (by omega)) <| UW.skip <| UQ.then <| ?_
          refine' UW.draw' (by kernel_rfl) [0, 0, 0, 0, 12, 28, 60, 126, 254, 0, 1023, 2047] [some 57, some 58, some 59, some 60, some 61, some 62, some 63, some 64, some 65, some 66, some 67, none] [some (57, _), some (58, _), some (59, _), some (60, _), some (61, _), some (62, _), some (63, _), some (64, _), some (65, _), some (66, _), some (67, _), none] [11] [0, 5, 8, 9] rfl (by decide) (by decide) (QAll.held (by decide) rfl rfl ?q1x0_0 (QAll.free (by decide) rfl rfl ?q1x0_1 (QAll.free (by decide) rfl rfl ?q1x0_2 (QAll.free (by decide) rfl rfl ?q1x0_3 (QAll.free (by decide) rfl rfl ?q1x0_4 (QAll.held (by decide) rfl rfl ?q1x0_5 (QAll.free (by decide) rfl rfl ?q1x0_6 (QAll.free (by decide) rfl rfl ?q1x0_7 (QAll.held (by decide) rfl rfl ?q1x0_8 (QAll.held (by decide) rfl rfl ?q1x0_9 (QAll.free (by decide) rfl rfl ?q1x0_10 (QAll.skip QAll.nil)))))))))))) ?q1x0_k
          case q1x0_0 => exact Z.ldw 1 ty26 rfl rfl (encV_len _)
          case q1x0_1 => (intro _; exact Z.mv rfl)
          case q1x0_2 => (intro _; exact Z.mv rfl)
          case q1x0_3 => (intro _; exact Z.mv rfl)
          case q1x0_4 => (intro _; exact Z.ia sl22 rfl rfl (by omega) (by assumption) (by rfl))
          case q1x0_5 => exact Z.lpc ty5 rfl
          case q1x0_6 => (intro _; exact Z.bi rfl rfl rfl)
          case q1x0_7 => (intro _; exact Z.ia sl23 rfl rfl (by omega) hgk (by rfl))
          case q1x0_8 => exact Z.lpc ty9 rfl
          case q1x0_9 => exact Z.ldw 0 ty26 rfl rfl rfl
          case q1x0_10 => (intro _; exact Z.eq (u' := .agg (encV nx)) (Z.call rfl rfl (fun H => hw (strV kd) H)) (by rw [hst, hX]))
          refine CH.cons0 rfl rfl <| D.stw 1 ty26 rfl rfl rfl rfl (by exact encV_cell _) (encV_len _) (encV_len _) rfl fun _ => ?_
          refine CH.nil <| ?_
          simp only [app, finL]
          refine UQ.blockN <| UQ.then <| S.rg <| Q.mv rfl <| S.qu (Z.add (r := ((j + 1 : Nat) : Int)) rfl rfl (IntWalk.i64_in _ (by omega))) <| Q.as rfl <| US.nil <| ?_
          refine S.back (j + 1, nx) ⟨rfl, rfl, rfl, rfl, rfl, rfl, trivial⟩ (by repeat (first | exact List.Sublist.refl _ | exact List.nil_sublist _ | refine .cons_cons _ ?_ | refine .cons _ ?_)) ?_ (by omega)
        all_goals exact ⟨hlt, hl6, hnx⟩
      · rw [if_neg h0] at hX
        by_cases h4 : b.tmod 9 = 1
        · rw [if_pos h4] at hX
          focus
            refine S.sq <| Q.rg <| Q.mv rfl <| Q.mv rfl <| S.qu (Z.lns sl22 rfl) <| Q.bi rfl rfl rfl <| Q.mv rfl <| ?_
            refine S.tD 15 (fun hc15 => ?_) (fun hc15 => ?_)
            rotate_left
            omega
            refine Q.on (Z.mv rfl) <| Q.on (Z.bi rfl rfl rfl) <| Q.pk rfl rfl <| Q.nt <| S.cT rfl (decide_eq_true (by omega)) <| UW.skip <| UQ.then <| S.sq <| UW.block <| Q.rg <| Q.mv rfl <| Q.mv rfl <| S.qu (Z.eq (u' := u8s (c.drop j)) (Z.sls sl22 rfl (u8s_sz _) (.lo rfl) (by omega) (by omega) rfl) (by rw [hml]; exact hcut)) <| ?_
            refine Q.mv rfl <| S.qu (Z.call rfl rfl (fun H => hpart H)) <| S.dd <| D.al z26 rfl rfl rfl fun p8 => S.s <| D.stw 0 ty26 rfl rfl rfl rfl (by exact encV_cell _) (encV_len _) rfl rfl fun _ => ?_
            refine Q.nt <| S.sq <| Q.rg <| Q.mv rfl <| Q.mv rfl <| S.qu (Z.ia sl22 rfl rfl (by omega) (by assumption) (by rfl)) <| ?_
            refine S.qu (Z.lpc ty5 rfl) <| Q.bi rfl rfl rfl <| Q.bi rfl rfl rfl <| Q.mv rfl <| ?_
            refine S.tE 32 (fun hc32 => ?_) (fun hc32 => ?_)
            omega
            refine Q.of <| Q.of <| Q.of <| Q.of <| Q.of <| Q.pk rfl rfl <| Q.nt <| S.cF rfl rfl <| UW.skip <| UQ.then <| S.sq <| Q.rg <| Q.mv rfl <| Q.mv rfl <| S.qu (Z.ia sl22 rfl rfl (by omega) (by assumption) (by rfl)) <| ?_
            refine S.qu (Z.lpc ty5 rfl) <| Q.bi rfl rfl rfl <| Q.bi rfl rfl rfl <| Q.nt <| S.cT rfl (beq_t (by omega)) <| S.rg <| Q.mv rfl <| Q.mv rfl <| S.qu (Z.eq (u' := u8s (c.drop j)) (Z.sls sl22 rfl (u8s_sz _) (.lo rfl) (by omega) (by omega) rfl) (by rw [hml]; exact hcut)) <| ?_
            refine Q.mv rfl <| S.qu (Z.call rfl rfl (fun H => hbody H)) <| S.s <| D.stw 0 ty26 rfl rfl rfl rfl (by exact encV_cell _) (encV_len _) (encV_len _) rfl fun _ => ?_
            refine Q.nt <| ?_
            refine' UW.draw' (by kernel_rfl) [0, 0, 0, 0, 12, 28, 60, 126, 254, 0, 1023, 2047] [some 57, some 58, some 59, some 60, some 61, some 62, some 63, some 64, some 65, some 66, some 67, none] [some (57, _), some (58, _), some (59, _), some (60, _), some (61, _), some (62, _), some (63, _), some (64, _), some (65, _), some (66, _), some (67, _), none] [11] [0, 5, 8, 9] rfl (by decide) (by decide) (QAll.held (by decide) rfl rfl ?q2x0_0 (QAll.free (by decide) rfl rfl ?q2x0_1 (QAll.free (by decide) rfl rfl ?q2x0_2 (QAll.free (by decide) rfl rfl ?q2x0_3 (QAll.free (by decide) rfl rfl ?q2x0_4 (QAll.held (by decide) rfl rfl ?q2x0_5 (QAll.free (by decide) rfl rfl ?q2x0_6 (QAll.free (by decide) rfl rfl ?q2x0_7 (QAll.held (by decide) rfl rfl ?q2x0_8 (QAll.held (by decide) rfl rfl ?q2x0_9 (QAll.free (by decide) rfl rfl ?q2x0_10 (QAll.skip QAll.nil)))))))))))) ?q2x0_k
            case q2x0_0 => exact Z.ldw 1 ty26 rfl rfl (encV_len _)
            case q2x0_1 => (intro _; exact Z.mv rfl)
            case q2x0_2 => (intro _; exact Z.mv rfl)
            case q2x0_3 => (intro _; exact Z.mv rfl)
            case q2x0_4 => (intro _; exact Z.ia sl22 rfl rfl (by omega) (by assumption) (by rfl))
            case q2x0_5 => exact Z.lpc ty5 rfl
            case q2x0_6 => (intro _; exact Z.bi rfl rfl rfl)
            case q2x0_7 => (intro _; exact Z.ia sl23 rfl rfl (by omega) hgk (by rfl))
            case q2x0_8 => exact Z.lpc ty9 rfl
            case q2x0_9 => exact Z.ldw 0 ty26 rfl rfl (encV_len _)
            case q2x0_10 => (intro _; exact Z.eq (u' := .agg (encV nx)) (Z.call rfl rfl (fun H => hw bd H)) (by rw [hst, hX]))
            refine CH.cons0 rfl rfl <| D.stw 1 ty26 rfl rfl rfl rfl (by exact encV_cell _) (encV_len _) (encV_len _) rfl fun _ => ?_
            refine CH.nil <| ?_
            simp only [app, finL]
            refine UQ.blockN <| UQ.then <| S.rg <| Q.mv rfl <| S.qu (Z.add (r := ((j + 1 : Nat) : Int)) rfl rfl (IntWalk.i64_in _ (by omega))) <| Q.as rfl <| US.nil <| ?_
            refine S.back (j + 1, nx) ⟨rfl, rfl, rfl, rfl, rfl, rfl, trivial⟩ (by repeat (first | exact List.Sublist.refl _ | exact List.nil_sublist _ | refine .cons_cons _ ?_ | refine .cons _ ?_)) ?_ (by omega)
          all_goals exact ⟨hlt, hl6, hnx⟩
        · rw [if_neg h4] at hX
          focus
            refine S.sq <| Q.rg <| Q.mv rfl <| Q.mv rfl <| S.qu (Z.lns sl22 rfl) <| Q.bi rfl rfl rfl <| Q.mv rfl <| ?_
            refine S.tD 15 (fun hc15 => ?_) (fun hc15 => ?_)
            rotate_left
            omega
            refine Q.on (Z.mv rfl) <| Q.on (Z.bi rfl rfl rfl) <| Q.pk rfl rfl <| Q.nt <| S.cT rfl (decide_eq_true (by omega)) <| UW.skip <| UQ.then <| S.sq <| UW.block <| Q.rg <| Q.mv rfl <| Q.mv rfl <| S.qu (Z.eq (u' := u8s (c.drop j)) (Z.sls sl22 rfl (u8s_sz _) (.lo rfl) (by omega) (by omega) rfl) (by rw [hml]; exact hcut)) <| ?_
            refine Q.mv rfl <| S.qu (Z.call rfl rfl (fun H => hpart H)) <| S.dd <| D.al z26 rfl rfl rfl fun p8 => S.s <| D.stw 0 ty26 rfl rfl rfl rfl (by exact encV_cell _) (encV_len _) rfl rfl fun _ => ?_
            refine Q.nt <| S.sq <| Q.rg <| Q.mv rfl <| Q.mv rfl <| S.qu (Z.ia sl22 rfl rfl (by omega) (by assumption) (by rfl)) <| ?_
            refine S.qu (Z.lpc ty5 rfl) <| Q.bi rfl rfl rfl <| Q.bi rfl rfl rfl <| Q.mv rfl <| ?_
            refine S.tE 32 (fun hc32 => ?_) (fun hc32 => ?_)
            refine Q.on (Z.mv rfl) <| Q.on (Z.mv rfl) <| Q.on (Z.ia sl22 rfl rfl (by omega) (by assumption) (by rfl)) <| ?_
            refine Q.on (Z.lpc ty5 rfl) <| Q.on (Z.bi rfl rfl rfl) <| Q.pk rfl rfl <| Q.nt <| S.cF rfl (decide_eq_false (by omega)) <| UW.skip <| UQ.then <| S.sq <| Q.rg <| Q.mv rfl <| Q.mv rfl <| S.qu (Z.ia sl22 rfl rfl (by omega) (by assumption) (by rfl)) <| ?_
            refine S.qu (Z.lpc ty5 rfl) <| Q.bi rfl rfl rfl <| Q.bi rfl rfl rfl <| Q.nt <| S.cF rfl (beq_f (by omega)) <| UW.skip <| UQ.then <| ?_
            refine' UW.draw' (by kernel_rfl) [0, 0, 0, 0, 12, 28, 60, 126, 254, 0, 1023, 2047] [some 57, some 58, some 59, some 60, some 61, some 62, some 63, some 64, some 65, some 66, some 67, none] [some (57, _), some (58, _), some (59, _), some (60, _), some (61, _), some (62, _), some (63, _), some (64, _), some (65, _), some (66, _), some (67, _), none] [11] [0, 5, 8, 9] rfl (by decide) (by decide) (QAll.held (by decide) rfl rfl ?q3x0_0 (QAll.free (by decide) rfl rfl ?q3x0_1 (QAll.free (by decide) rfl rfl ?q3x0_2 (QAll.free (by decide) rfl rfl ?q3x0_3 (QAll.free (by decide) rfl rfl ?q3x0_4 (QAll.held (by decide) rfl rfl ?q3x0_5 (QAll.free (by decide) rfl rfl ?q3x0_6 (QAll.free (by decide) rfl rfl ?q3x0_7 (QAll.held (by decide) rfl rfl ?q3x0_8 (QAll.held (by decide) rfl rfl ?q3x0_9 (QAll.free (by decide) rfl rfl ?q3x0_10 (QAll.skip QAll.nil)))))))))))) ?q3x0_k
            case q3x0_0 => exact Z.ldw 1 ty26 rfl rfl (encV_len _)
            case q3x0_1 => (intro _; exact Z.mv rfl)
            case q3x0_2 => (intro _; exact Z.mv rfl)
            case q3x0_3 => (intro _; exact Z.mv rfl)
            case q3x0_4 => (intro _; exact Z.ia sl22 rfl rfl (by omega) (by assumption) (by rfl))
            case q3x0_5 => exact Z.lpc ty5 rfl
            case q3x0_6 => (intro _; exact Z.bi rfl rfl rfl)
            case q3x0_7 => (intro _; exact Z.ia sl23 rfl rfl (by omega) hgk (by rfl))
            case q3x0_8 => exact Z.lpc ty9 rfl
            case q3x0_9 => exact Z.ldw 0 ty26 rfl rfl (encV_len _)
            case q3x0_10 => (intro _; exact Z.eq (u' := .agg (encV nx)) (Z.call rfl rfl (fun H => hw pt H)) (by rw [hst, hX]))
            refine CH.cons0 rfl rfl <| D.stw 1 ty26 rfl rfl rfl rfl (by exact encV_cell _) (encV_len _) (encV_len _) rfl fun _ => ?_
            refine CH.nil <| ?_
            simp only [app, finL]
            refine UQ.blockN <| UQ.then <| S.rg <| Q.mv rfl <| S.qu (Z.add (r := ((j + 1 : Nat) : Int)) rfl rfl (IntWalk.i64_in _ (by omega))) <| Q.as rfl <| US.nil <| ?_
            refine S.back (j + 1, nx) ⟨rfl, rfl, rfl, rfl, rfl, rfl, trivial⟩ (by repeat (first | exact List.Sublist.refl _ | exact List.nil_sublist _ | refine .cons_cons _ ?_ | refine .cons _ ?_)) ?_ (by omega)
            rotate_left
            refine Q.of <| Q.of <| Q.of <| Q.of <| Q.of <| Q.pk rfl rfl <| Q.nt <| S.cF rfl rfl <| UW.skip <| UQ.then <| S.sq <| Q.rg <| Q.mv rfl <| Q.mv rfl <| S.qu (Z.ia sl22 rfl rfl (by omega) (by assumption) (by rfl)) <| ?_
            refine S.qu (Z.lpc ty5 rfl) <| Q.bi rfl rfl rfl <| Q.bi rfl rfl rfl <| Q.nt <| S.cF rfl (beq_f (by omega)) <| UW.skip <| UQ.then <| ?_
            refine' UW.draw' (by kernel_rfl) [0, 0, 0, 0, 12, 28, 60, 126, 254, 0, 1023, 2047] [some 57, some 58, some 59, some 60, some 61, some 62, some 63, some 64, some 65, some 66, some 67, none] [some (57, _), some (58, _), some (59, _), some (60, _), some (61, _), some (62, _), some (63, _), some (64, _), some (65, _), some (66, _), some (67, _), none] [11] [0, 5, 8, 9] rfl (by decide) (by decide) (QAll.held (by decide) rfl rfl ?q3x1_0 (QAll.free (by decide) rfl rfl ?q3x1_1 (QAll.free (by decide) rfl rfl ?q3x1_2 (QAll.free (by decide) rfl rfl ?q3x1_3 (QAll.free (by decide) rfl rfl ?q3x1_4 (QAll.held (by decide) rfl rfl ?q3x1_5 (QAll.free (by decide) rfl rfl ?q3x1_6 (QAll.free (by decide) rfl rfl ?q3x1_7 (QAll.held (by decide) rfl rfl ?q3x1_8 (QAll.held (by decide) rfl rfl ?q3x1_9 (QAll.free (by decide) rfl rfl ?q3x1_10 (QAll.skip QAll.nil)))))))))))) ?q3x1_k
            case q3x1_0 => exact Z.ldw 1 ty26 rfl rfl (encV_len _)
            case q3x1_1 => (intro _; exact Z.mv rfl)
            case q3x1_2 => (intro _; exact Z.mv rfl)
            case q3x1_3 => (intro _; exact Z.mv rfl)
            case q3x1_4 => (intro _; exact Z.ia sl22 rfl rfl (by omega) (by assumption) (by rfl))
            case q3x1_5 => exact Z.lpc ty5 rfl
            case q3x1_6 => (intro _; exact Z.bi rfl rfl rfl)
            case q3x1_7 => (intro _; exact Z.ia sl23 rfl rfl (by omega) hgk (by rfl))
            case q3x1_8 => exact Z.lpc ty9 rfl
            case q3x1_9 => exact Z.ldw 0 ty26 rfl rfl (encV_len _)
            case q3x1_10 => (intro _; exact Z.eq (u' := .agg (encV nx)) (Z.call rfl rfl (fun H => hw pt H)) (by rw [hst, hX]))
            refine CH.cons0 rfl rfl <| D.stw 1 ty26 rfl rfl rfl rfl (by exact encV_cell _) (encV_len _) (encV_len _) rfl fun _ => ?_
            refine CH.nil <| ?_
            simp only [app, finL]
            refine UQ.blockN <| UQ.then <| S.rg <| Q.mv rfl <| S.qu (Z.add (r := ((j + 1 : Nat) : Int)) rfl rfl (IntWalk.i64_in _ (by omega))) <| Q.as rfl <| US.nil <| ?_
            refine S.back (j + 1, nx) ⟨rfl, rfl, rfl, rfl, rfl, rfl, trivial⟩ (by repeat (first | exact List.Sublist.refl _ | exact List.nil_sublist _ | refine .cons_cons _ ?_ | refine .cons _ ?_)) ?_ (by omega)
            rotate_left
          all_goals exact ⟨hlt, hl6, hnx⟩
    · focus
        refine S.sq <| Q.rg <| Q.mv rfl <| Q.mv rfl <| S.qu (Z.lns sl22 rfl) <| Q.bi rfl rfl rfl <| Q.mv rfl <| ?_
        refine S.tD 15 (fun hc15 => ?_) (fun hc15 => ?_)
        rotate_left
        omega
        refine Q.on (Z.mv rfl) <| Q.on (Z.bi rfl rfl rfl) <| Q.pk rfl rfl <| Q.nt <| S.cF rfl (decide_eq_false (by omega)) <| UW.exit <| UQ.pass <| UQ.pass <| UQ.here <| UQ.then <| Q.rg <| S.qu (Z.ldw 0 ty26 rfl rfl (encV_len _)) <| S.s <| D.stw 1 ty26 rfl rfl rfl rfl (by exact encV_cell _) (encV_len _) rfl rfl fun _ => ?_
        refine Q.nt <| UW.ret <| S.rtR (fun hd => res_cell (k := 1) hd rfl rfl rfl st26 (by rw [encV_len]; exact sz26)) <| ?_
      rw [ho, show j = min c.length 18 from by omega]; rfl
  · refine S.sq <| Q.rg <| Q.mv rfl <| Q.mv rfl <| S.qu (Z.lns sl22 rfl) <| Q.bi rfl rfl rfl <| Q.mv rfl <| ?_
    refine S.tD 15 (fun hc15 => ?_) (fun hc15 => ?_)
    omega
    refine Q.of <| Q.of <| Q.pk rfl rfl <| Q.nt <| S.cF rfl rfl <| UW.exit <| UQ.pass <| UQ.pass <| UQ.here <| UQ.then <| Q.rg <| S.qu (Z.ldw 0 ty26 rfl rfl (encV_len _)) <| S.s <| D.stw 1 ty26 rfl rfl rfl rfl (by exact encV_cell _) (encV_len _) rfl rfl fun _ => ?_
    refine Q.nt <| UW.ret <| S.rtR (fun hd => res_cell (k := 1) hd rfl rfl rfl st26 (by rw [encV_len]; exact sz26)) <| ?_
    rw [ho, show j = min c.length 18 from by omega]; rfl
end Go.Proofs.YtgmfgmbgmjbdhaaGreatDoor
end
section
namespace Go.Proofs.YtgmfgmbgmjbdhaaGreatDoor
open Go Go.RowKit Go.Eng
set_option linter.unusedSimpArgs false
set_option linter.unusedVariables false
set_option maxRecDepth 100000
theorem eqT_eq {a b : ByteArray} (h : eqT a b = true) : a = b := bytes_ext (by unfold eqT at h; simpa using h)
theorem eqTs_eq : ∀ {a b : List ByteArray}, eqBy eqT a b = true → a = b
  | [], [], _ => rfl
  | [], _ :: _, h => by cases h
  | _ :: _, [], h => by cases h
  | x :: r, y :: s, h => by
    have h' : (eqT x y && eqBy eqT r s) = true := h
    rw [Bool.and_eq_true] at h'
    rw [eqT_eq h'.1, eqTs_eq h'.2]
mutual
theorem same_eq : ∀ {x y : V}, sameV x y = true → x = y
  | .mk k n t ks vs, .mk k' n' t' ks' vs', h => by
    rw [sameV] at h
    simp only [Bool.and_eq_true, beq_iff_eq] at h
    obtain ⟨rfl, rfl, h3, h4, h5⟩ := h
    rw [eqT_eq h3, eqTs_eq h4, sames_eq h5]
theorem sames_eq : ∀ {x y : List V}, samesV x y = true → x = y
  | [], [], _ => rfl
  | [], _ :: _, h => by rw [samesV] at h; cases h
  | _ :: _, [], h => by rw [samesV] at h; cases h
  | x :: r, y :: s, h => by
    rw [samesV, Bool.and_eq_true] at h
    rw [same_eq h.1, sames_eq h.2]
end
theorem same_ne {x y : V} (h : x ≠ y) : sameV x y = false := by
  cases hs : sameV x y with
  | false => rfl
  | true => exact absurd (same_eq hs) h
theorem strV_inj {a b : ByteArray} (h : strV a = strV b) : a = b := by injection h
theorem same_str (a b : ByteArray) : sameV (strV a) (strV b) = (a.toList == b.toList) := by
  cases h : (a.toList == b.toList) with
  | true =>
    have : a = b := bytes_ext (by simpa using h)
    rw [this]; exact same_self _ (strV_fits _)
  | false => exact same_ne fun e => by rw [strV_inj e] at h; simp at h
/-- An object: its keys rise, each has a value. -/
structure O (x : V) : Prop where
  k : x.k = 5
  n : x.n = 0
  t : x.t = ⟨#[]⟩
  len : x.ks.length = x.vs.length
  asc : Asc x.ks
theorem O.form {x : V} (h : O x) : x = .mk 5 0 ⟨#[]⟩ x.ks x.vs := by
  obtain ⟨k, n, t, ks, vs⟩ := x
  have h1 : k = 5 := h.k
  have h2 : n = 0 := h.n
  have h3 : t = ⟨#[]⟩ := h.t
  subst h1; subst h2; subst h3; rfl
theorem O.of {ks : List ByteArray} {vs : List V} (hl : ks.length = vs.length) (ha : Asc ks) : O (.mk 5 0 ⟨#[]⟩ ks vs) := ⟨rfl, rfl, rfl, hl, ha⟩
theorem O.empty : O (.mk 5 0 ⟨#[]⟩ [] []) := .of rfl (fun i j hi => absurd hi (Nat.not_lt_zero _))
theorem O.with {x : V} (h : O x) (key : ByteArray) (y : V) : O (withV x key y) := by
  rw [h.form]
  obtain ⟨ks', vs', e1, e2, e3, _⟩ := with_form (n := 0) (t := ⟨#[]⟩) h.len h.asc key y
  rw [e1]; exact .of e2 e3
theorem O.wo {x : V} (h : O x) (key : ByteArray) : O (withoutV x key) := by
  rw [h.form]
  obtain ⟨ks', vs', e1, e2, e3, _⟩ := wo_form (n := 0) (t := ⟨#[]⟩) h.len h.asc key
  rw [e1]; exact .of e2 e3
theorem O.get_with {x : V} (h : O x) (key : ByteArray) (y : V) : getV (withV x key y) key = (y, true) := by
  rw [h.form]; exact Go.Proofs.YtgmfgmbgmjbdhaaGreatDoor.get_with h.len h.asc key y
theorem O.get_other {x : V} (h : O x) {key other : ByteArray} (hne : other ≠ key) (y : V) : getV (withV x key y) other = getV x other := by
  have e := h.form
  rw [e]; exact Go.Proofs.YtgmfgmbgmjbdhaaGreatDoor.get_other h.len h.asc key other hne y
/-- What a key has, as a pair of the lists. -/
theorem O.mem {x : V} (h : O x) {key : ByteArray} {v : V} : getV x key = (v, true) ↔ (key, v) ∈ x.ks.zip x.vs := by
  have e := h.form
  have hl := h.len
  have ha := h.asc
  generalize x.ks = ks at *
  generalize x.vs = vs at *
  subst e
  constructor
  · intro hg
    cases hk : keyIdx ks key with
    | none => rw [get_none hl hk] at hg; simp at hg
    | some i =>
      rw [get_some hl hk] at hg
      have hi : i < ks.length := by
        unfold keyIdx at hk
        exact (List.findIdx?_eq_some_iff_getElem.1 hk).1
      have hv : vs.getD i zeroV = v := (Prod.mk.inj hg).1
      rw [getD_at (by omega)] at hv
      have : (ks.zip vs)[i]'(by rw [List.length_zip]; omega) = (key, v) := by rw [List.getElem_zip, key_at hk hi, hv]
      rw [← this]; exact List.getElem_mem _
  · intro hm
    obtain ⟨i, hi, e⟩ := List.getElem_of_mem hm
    rw [List.length_zip] at hi
    rw [List.getElem_zip] at e
    have e1 : ks[i]'(by omega) = key := (Prod.mk.inj e).1
    have e2 : vs[i]'(by omega) = v := (Prod.mk.inj e).2
    have hk := keyIdx_asc ha (by omega : i < ks.length)
    rw [e1] at hk
    rw [get_some hl hk, getD_at (by omega), e2]
theorem get_no {x : V} {key : ByteArray} (h : (getV x key).2 = false) : getV x key = (zeroV, false) := by
  unfold getV at h ⊢
  split
  · rename_i i e; rw [e] at h; simp at h
  · rfl
theorem O.has {x : V} (h : O x) {key : ByteArray} : (getV x key).2 = true ↔ key ∈ x.ks := by
  constructor
  · intro hg
    have : (key, (getV x key).1) ∈ x.ks.zip x.vs := h.mem.1 (by rw [← hg])
    exact (List.of_mem_zip this).1
  · intro hm
    obtain ⟨i, hi, e⟩ := List.getElem_of_mem hm
    have hl := h.len
    have : (key, x.vs[i]'(by omega)) ∈ x.ks.zip x.vs := by
      have : (x.ks.zip x.vs)[i]'(by rw [List.length_zip]; omega) = (key, x.vs[i]'(by omega)) := by rw [List.getElem_zip, e]
      rw [← this]; exact List.getElem_mem _
    rw [h.mem.2 this]
theorem O.get_wo {x : V} (h : O x) (key : ByteArray) : getV (withoutV x key) key = (zeroV, false) := by
  rw [h.form]
  obtain ⟨ks', vs', e1, e2, e3, e4, _⟩ := wo_form (n := 0) (t := ⟨#[]⟩) h.len h.asc key
  rw [e1]; exact get_none e2 e4
theorem asc_pw {ks : List ByteArray} (h : Asc ks) : ks.Pairwise (fun a b => lessB a b = true) := List.pairwise_iff_getElem.2 fun i j hi hj hij => h i j hi hj hij
theorem pw_asc {ks : List ByteArray} (h : ks.Pairwise (fun a b => lessB a b = true)) : Asc ks := fun i j hi hj hij => List.pairwise_iff_getElem.1 h i j hi hj hij
theorem pw_eq : ∀ {a b : List ByteArray}, a.Pairwise (fun a b => lessB a b = true) → b.Pairwise (fun a b => lessB a b = true) → (∀ s, s ∈ a ↔ s ∈ b) → a = b
  | [], [], _, _, _ => rfl
  | [], y :: s, _, _, h => absurd ((h y).2 (List.mem_cons_self ..)) (List.not_mem_nil)
  | x :: r, [], _, _, h => absurd ((h x).1 (List.mem_cons_self ..)) (List.not_mem_nil)
  | x :: r, y :: s, h1, h2, h => by
    obtain ⟨h1a, h1b⟩ := List.pairwise_cons.1 h1
    obtain ⟨h2a, h2b⟩ := List.pairwise_cons.1 h2
    have hxy : x = y := by
      rcases List.mem_cons.1 ((h x).1 (List.mem_cons_self ..)) with e | e
      · exact e
      · rcases List.mem_cons.1 ((h y).2 (List.mem_cons_self ..)) with e' | e'
        · exact e'.symm
        · have := less_trans (h2a x e) (h1a y e')
          rw [less_irr] at this; cases this
    subst hxy
    have : r = s := pw_eq h1b h2b fun z => by
      have hz := h z
      rw [List.mem_cons, List.mem_cons] at hz
      constructor
      · intro hm
        rcases hz.1 (.inr hm) with e | e
        · subst e; have := h1a _ hm; rw [less_irr] at this; cases this
        · exact e
      · intro hm
        rcases hz.2 (.inr hm) with e | e
        · subst e; have := h2a _ hm; rw [less_irr] at this; cases this
        · exact e
    rw [this]
/-- TWO OBJECTS WHOSE KEYS HAVE THE SAME ARE ONE. -/
theorem O.ext {x y : V} (hx : O x) (hy : O y) (h : ∀ key, getV x key = getV y key) : x = y := by
  have hk : x.ks = y.ks := pw_eq (asc_pw hx.asc) (asc_pw hy.asc) fun s => by rw [← hx.has, ← hy.has, h s]
  have hv : x.vs = y.vs := by
    have hl1 := hx.len
    have hl2 := hy.len
    apply List.ext_getElem (by rw [← hl1, ← hl2, hk])
    intro i h1 h2
    have m1 : (x.ks[i]'(by omega), x.vs[i]) ∈ x.ks.zip x.vs := by
      have : (x.ks.zip x.vs)[i]'(by rw [List.length_zip]; omega) = (x.ks[i]'(by omega), x.vs[i]) := List.getElem_zip
      rw [← this]; exact List.getElem_mem _
    have m2 : (y.ks[i]'(by omega), y.vs[i]) ∈ y.ks.zip y.vs := by
      have : (y.ks.zip y.vs)[i]'(by rw [List.length_zip]; omega) = (y.ks[i]'(by omega), y.vs[i]) := List.getElem_zip
      rw [← this]; exact List.getElem_mem _
    have g1 := hx.mem.2 m1
    have g2 := hy.mem.2 m2
    have hki : x.ks[i]'(by omega) = y.ks[i]'(by omega) := by simp only [hk]
    rw [hki, h] at g1
    exact (Prod.mk.inj (g1.symm.trans g2)).1
  rw [hx.form, hy.form, hk, hv]
theorem get_iff {x y : V} {a b : ByteArray} (h : ∀ v, getV x a = (v, true) ↔ getV y b = (v, true)) : getV x a = getV y b := by
  cases h1 : (getV x a).2 with
  | true =>
    have := (h (getV x a).1).1 (by rw [← h1])
    rw [this, ← h1]
  | false =>
    cases h2 : (getV y b).2 with
    | true =>
      have := (h (getV y b).1).2 (by rw [← h2])
      rw [this] at h1; cases h1
    | false => rw [get_no h1, get_no h2]
theorem zip_cut {α β : Type} (a : List α) (b : List β) (i : Nat) (h : a.length = b.length) : (cutAt a i).zip (cutAt b i) = cutAt (a.zip b) i := by
  unfold cutAt
  rw [List.zip_append (by rw [List.length_take, List.length_take, h])]
  simp only [List.zip, List.take_zipWith, List.drop_zipWith]
theorem O.get_wo_other {x : V} (h : O x) {key other : ByteArray} (hne : other ≠ key) : getV (withoutV x key) other = getV x other := by
  refine get_iff fun v => ?_
  rw [(h.wo key).mem, h.mem]
  have e := h.form
  have hl := h.len
  have ha := h.asc
  generalize x.ks = ks at *
  generalize x.vs = vs at *
  subst e
  cases hk : keyIdx ks key with
  | none => rw [wo_none hl hk]; exact Iff.rfl
  | some i =>
    rw [wo_some hl hk]
    show (other, v) ∈ (cutAt ks i).zip (cutAt vs i) ↔ (other, v) ∈ ks.zip vs
    rw [zip_cut _ _ _ hl]
    have hi : i < ks.length := by
      unfold keyIdx at hk
      exact (List.findIdx?_eq_some_iff_getElem.1 hk).1
    have hz : i < (ks.zip vs).length := by rw [List.length_zip]; omega
    have hp : (ks.zip vs)[i] = (key, vs[i]'(by omega)) := by rw [List.getElem_zip, key_at hk hi]
    have hs : ks.zip vs = (ks.zip vs).take i ++ (key, vs[i]'(by omega)) :: (ks.zip vs).drop (i + 1) := by
      rw [← hp, ← List.drop_eq_getElem_cons hz, List.take_append_drop]
    unfold cutAt
    conv => rhs; rw [hs]
    simp only [List.mem_append, List.mem_cons]
    constructor
    · rintro (h | h)
      · exact .inl h
      · exact .inr (.inr h)
    · rintro (h | h | h)
      · exact .inl h
      · exact absurd (Prod.mk.inj h).1 hne
      · exact .inr h
theorem sel_all (x : V) (h : x.ks.length = x.vs.length) (g : ByteArray → Bool) : sel x.ks x.vs g (min x.ks.length x.vs.length) = (x.ks.zip x.vs).filter fun p => g p.1 := by
  unfold sel
  rw [List.take_of_length_le (by rw [List.length_zip]; omega)]
theorem O.pick_form {x : V} (h : O x) (g : ByteArray → Bool) : pickV x g = .mk 5 0 ⟨#[]⟩ (((x.ks.zip x.vs).filter fun p => g p.1).map (·.1)) (((x.ks.zip x.vs).filter fun p => g p.1).map (·.2)) := by
  unfold pickV
  rw [sel_all x h.len g]
theorem zip_maps {α β : Type} (l : List (α × β)) : (l.map (·.1)).zip (l.map (·.2)) = l := by
  induction l with
  | nil => rfl
  | cons p r ih => exact congrArg (List.cons p) ih
theorem O.pick {x : V} (h : O x) (g : ByteArray → Bool) : O (pickV x g) := by
  rw [h.pick_form g]
  refine .of (by rw [List.length_map, List.length_map]) (pw_asc ?_)
  have h1 : ((x.ks.zip x.vs).map (·.1)).Pairwise (fun a b => lessB a b = true) := by
    rw [show (x.ks.zip x.vs).map (·.1) = x.ks from List.map_fst_zip (by have := h.len; omega)]
    exact asc_pw h.asc
  exact List.Pairwise.sublist (List.filter_sublist.map _) h1
theorem O.get_pick {x : V} (h : O x) (g : ByteArray → Bool) (key : ByteArray) : getV (pickV x g) key = if g key = true then getV x key else (zeroV, false) := by
  have hm : ∀ v, getV (pickV x g) key = (v, true) ↔ (key, v) ∈ x.ks.zip x.vs ∧ g key = true := fun v => by
    rw [(h.pick g).mem, h.pick_form g]
    show (key, v) ∈ (List.map _ _).zip (List.map _ _) ↔ _
    rw [zip_maps, List.mem_filter]
  by_cases hg : g key = true
  · rw [if_pos hg]
    refine get_iff fun v => ?_
    rw [hm, h.mem]
    exact ⟨fun h => h.1, fun h => ⟨h, hg⟩⟩
  · rw [if_neg hg]
    refine get_no ?_
    cases h2 : (getV (pickV x g) key).2 with
    | false => rfl
    | true => exact absurd ((hm (getV (pickV x g) key).1).1 (by rw [← h2])).2 hg
theorem five_has {x : V} {key : ByteArray} (h : (getV x key).1.k = 5) : (getV x key).2 = true := by
  cases h2 : (getV x key).2 with
  | true => rfl
  | false => rw [get_no h2] at h; cases h
theorem contentB_field : hasB fieldL contentB = true := by kernel_rfl
theorem O.redC {x : V} (h : O x) : redC x = (getV x contentB).1 := by
  show (getV (pickV x _) contentB).1 = _
  rw [h.get_pick, if_pos contentB_field]
theorem O.red {x : V} (h : O x) : O (redP x) := by
  have h1 : O (redO x) := h.pick _
  unfold redP
  rw [if_pos h.k]
  split
  · exact h1.with _ _
  · exact h1
theorem O.get_red {x : V} (h : O x) (key : ByteArray) : getV (redP x) key = if hasB fieldL key = true then (if key = contentB ∧ (getV x contentB).1.k = 5 then (pickV (getV x contentB).1 (keptB (getV x typeB).1.t), true) else getV x key) else (zeroV, false) := by
  have h1 : O (redO x) := h.pick _
  have hp : getV (redO x) key = if hasB fieldL key = true then getV x key else (zeroV, false) := h.get_pick _ key
  unfold redP
  rw [if_pos h.k, h.redC]
  by_cases h5 : (getV x contentB).1.k = 5
  · rw [if_pos h5]
    by_cases hk : key = contentB
    · subst hk
      rw [h1.get_with, if_pos contentB_field, if_pos ⟨rfl, h5⟩]
    · rw [h1.get_other hk, hp]
      simp only [hk, false_and, if_false]
  · rw [if_neg h5, hp]
    simp only [h5, and_false, if_false]
theorem O.sealed {x : V} (h : O x) : O (sealedV x) := h.with _ _
theorem get_sealV (t : ByteArray) : getV (sealV t) sha256B = (strV t, true) := ev_empty.get_with sha256B (strV t)
end Go.Proofs.YtgmfgmbgmjbdhaaGreatDoor
end
section
namespace Go.Proofs.YtgmfgmbgmjbdhaaGreatDoor
open Go Go.RowKit Go.Eng
set_option linter.unusedSimpArgs false
set_option linter.unusedVariables false
set_option maxRecDepth 100000
set_option maxHeartbeats 4000000
theorem wtK_sub : ∀ {a b : List ByteArray}, a.Sublist b → wtK a ≤ wtK b := by
  intro a b h
  induction h with
  | slnil => exact Nat.le_refl _
  | cons x h ih => rw [wtK]; omega
  | cons_cons x h ih => rw [wtK, wtK]; omega
theorem wtVs_sub : ∀ {a b : List V}, a.Sublist b → wtVs a ≤ wtVs b := by
  intro a b h
  induction h with
  | slnil => exact Nat.le_refl _
  | cons x h ih => rw [wtVs]; omega
  | cons_cons x h ih => rw [wtVs, wtVs]; omega
theorem wt_zip : ∀ (a : List ByteArray) (b : List V), wtK ((a.zip b).map (·.1)) ≤ wtK a ∧ wtVs ((a.zip b).map (·.2)) ≤ wtVs b
  | [], b => ⟨Nat.le_refl _, Nat.zero_le _⟩
  | x :: r, [] => ⟨Nat.zero_le _, Nat.le_refl _⟩
  | x :: r, y :: s => by
    have h := wt_zip r s
    show wtK (x :: (r.zip s).map (·.1)) ≤ _ ∧ wtVs (y :: (r.zip s).map (·.2)) ≤ _
    rw [wtK, wtK, wtVs, wtVs]
    have h1 := h.1
    have h2 := h.2
    exact ⟨by omega, by omega⟩
theorem Wt.pick {N : Nat} {x : V} (h : Wt N x) (g : ByteArray → Bool) : Wt (N + 30) (pickV x g) := by
  have s0 : (sel x.ks x.vs g (min x.ks.length x.vs.length)).Sublist (x.ks.zip x.vs) := (List.filter_sublist).trans (List.take_sublist _ _)
  have h1 := wtK_sub (s0.map (·.1))
  have h2 := wtVs_sub (s0.map (·.2))
  have h4 := wt_zip x.ks x.vs
  have h3 := h.wt
  rw [wt_eq x] at h3
  unfold pickV
  refine ⟨num_of (by decide) (fun v hv => ?_), ?_⟩
  · obtain ⟨p, hp, rfl⟩ := List.mem_map.1 hv
    exact h.num.kid (List.of_mem_zip (s0.subset hp)).2
  · rw [wtV_mk]
    show 30 + 6 * 0 + _ + _ ≤ _
    omega
theorem Wt.red {N : Nat} {x : V} (h : Wt N x) (hN : 30 ≤ N) : Wt (2 * N + 200) (redP x) := by
  have h1 : Wt (N + 30) (redO x) := h.pick _
  have h2 : Wt (N + 30) (redC x) := h1.get (by omega) _
  unfold redP
  split
  · split
    · exact (h1.with (h2.pick _) (by decide : contentB.size ≤ 7)).up (by omega)
    · exact h1.up (by omega)
  · exact .leaf (by decide) (by show 30 + 6 * 0 ≤ _; omega)
theorem with_fits2 {x : V} (hx : Fits x) (key : ByteArray) {y : V} (hy : Fits y) (h1 : x.ks.length ≤ 500000) (h2 : x.vs.length ≤ 500000) : Fits (withV x key y) := by
  have hw := withV_lens x key y
  have ho : (objV x).ks.length ≤ 500000 ∧ (objV x).vs.length ≤ 500000 := by
    unfold objV
    split
    · exact ⟨h1, h2⟩
    · exact ⟨Nat.zero_le _, Nat.zero_le _⟩
  refine Fits.of (by omega) (by omega) fun v hv => ?_
  have hfo : Fits (objV x) := hx.obj
  rcases withV_vals hv with h | h
  · generalize objV x = o at *
    cases hfo with | mk _ _ _ _ _ a b c => exact c v h
  · rw [h]; exact hy
theorem red_fits {x : V} (hx : Fits x) (hl : x.ks.length ≤ 500000) : Fits (redP x) := by
  have ho : Fits (redO x) := pick_fits hx _
  have hc : Fits (redC x) := get_fits ho _
  have hpk : Fits (pickV (redC x) (keptB (getV x typeB).1.t)) := pick_fits hc _
  have hsl := sel_len x.ks x.vs (hasB fieldL) (min x.ks.length x.vs.length)
  unfold redP
  split
  · split
    · refine with_fits2 ho contentB hpk ?_ ?_
      · show (List.map _ (sel x.ks x.vs (hasB fieldL) (min x.ks.length x.vs.length))).length ≤ _
        rw [List.length_map]; omega
      · show (List.map _ (sel x.ks x.vs (hasB fieldL) (min x.ks.length x.vs.length))).length ≤ _
        rw [List.length_map]; omega
    · exact ho
  · exact fits_leaf0 _ _ _
theorem hashB_size (x : V) : (hashB x).size ≤ 50 := by
  have h := (textF_size (shaB (bytesOf (printV (bareV x)))) (chunksUpto 3 11)).2
  have e : hashB x = textF (shaB (bytesOf (printV (bareV x)))) (chunksUpto 3 11) := by
    unfold hashB textB
    rw [shaB_len]
  rw [e]
  have : (chunksUpto 3 11).length = 11 := by decide
  omega
theorem Wt.sealO (t : ByteArray) (ht : t.size ≤ 50) : Wt 500 (sealV t) := by
  have h0 : Wt 30 zeroV := .leaf (by decide) (by decide)
  exact (h0.with (Wt.str (N := 330) (t := t) (by omega)) (by decide : sha256B.size ≤ 6)).up (by decide)
theorem Wt.sealed {N : Nat} {x : V} (h : Wt N x) : Wt (N + 600) (sealedV x) := (h.with (Wt.sealO _ (hashB_size x)) (by decide : hashesB.size ≤ 6)).up (by omega)
theorem pr_bare {x : V} (hf : Fits x) (hw : Wt 1000000000 x) : Pr (bareV x) := ⟨wo_fits' (wo_fits' hf _) _, ((hw.without _).without _).num, ((hw.without _).without _).wt⟩
theorem pr_of {x : V} (hf : Fits x) (hw : Wt 1000000000 x) : Pr x := ⟨hf, hw.num, hw.wt⟩
def dollarB : ByteArray := ⟨#[36]⟩
def idB (x : V) : ByteArray := dollarB ++ textB (shaB (bytesOf (printV (redP x))))
theorem sealID_low (s : ByteArray) (hs : s.size ≤ 1000000000) (H : Hp) (hN : NoIt H) : ACall Tryz.prog 57 [.v (.string s)] H (IsR H (.v (.string (dollarB ++ textB (shaB (bytesOf s)))))) := by
  have hbl := bytesOf_len s
  have hbo := bytesOf_ok s
  have hsl := shaB_len (bytesOf s)
  have hso := shaB_ok (bytesOf s)
  have htz := (textF_size (shaB (bytesOf s)) (chunksUpto 3 11)).2
  have htl : (chunksUpto 3 11).length = 11 := by decide
  have hte : textB (shaB (bytesOf s)) = textF (shaB (bytesOf s)) (chunksUpto 3 11) := by unfold textB; rw [shaB_len]
  rw [← hte] at htz
  have hds : (⟨#[36]⟩ : ByteArray).size = 1 := rfl
  unfold dollarB
  refine UCall (n := 8) (H0 := H) (objs := []) Tryz.func57 (by kernel_rfl) rfl (by rw [Tryz.ntmps57]; rfl) .nil <| ?_
  refine Q.rg <| Q.as rfl <| Q.nt <| Q.rg <| Q.mv rfl <| S.qu (Z.eq (u' := .sl (encY (bytesOf s))) (Z.s2b Tryz.underlying9 Tryz.underlying22 (by rfl) rfl (by omega)) (by rw [encY_bytes])) <| ?_
  refine S.qu (Z.calld rfl rfl (fun hd => sum_spec (bytesOf s) (by omega) hbo _ (hN.ext rfl))) <| S.qu (Z.calld rfl rfl (fun hd => sealT_spec (shaB (bytesOf s)) (by omega) (by omega) hso _ (hN.ext rfl))) <| S.qu (Z.cat rfl rfl (by omega)) <| Q.as rfl <| Q.nt <| UW.ret <| S.rtR (fun _ => res_tmp rfl rfl) <| ?_
  rfl
theorem sealID_spec (s : ByteArray) (hs : s.size ≤ 1000000000) (H : Hp) (hG : Glob H) : ACall Tryz.prog 57 [.v (.string s)] H (IsR H (.v (.string (dollarB ++ textB (shaB (bytesOf s)))))) :=
  ACall.lowly hG.raw (sealID_low s hs _ (NoIt.raw hG.raw)) rfl
theorem id_spec (x : V) (hx : Fits x) (hp : Pr (redP x)) (H : Hp) (hG : Glob H) : ACall Tryz.prog 27 [.agg (encV x)] H (IsR H (.v (.string (idB x)))) := by
  have hsz := pr_size hp
  have hr : ∀ H, Glob H → ACall Tryz.prog 21 [.agg (encV x)] H (IsR H (.agg (encV (redP x)))) := fun H h => redact_spec x hx H h
  have hpr : ∀ H, Glob H → ACall Tryz.prog 40 [.agg (encV (redP x))] H (IsR H (.v (.string (printV (redP x))))) := fun H h => print_spec (redP x) hp.fits hp H h
  have hid : ∀ H, Glob H → ACall Tryz.prog 57 [.v (.string (printV (redP x)))] H (IsR H (.v (.string (idB x)))) := fun H h => sealID_spec _ hsz H h
  generalize idB x = i at *
  generalize redP x = r at *
  generalize printV r = pt at *
  obtain ⟨k, n, t, ks, vs⟩ := x
  refine UCall (n := 7) (H0 := H) (objs := []) Tryz.func27 (by kernel_rfl) rfl (by rw [Tryz.ntmps27]; rfl) .nil <| ?_
  refine Q.rg <| S.dd <| D.box rfl rfl rfl fun p1 => Q.as rfl <| Q.nt <| Q.rg <| S.qu (Z.ldw 0 ty26 rfl rfl rfl) <| S.qu (Z.callg rfl rfl (fun _ hS => hr _ (hG.mono hS))) <| S.qu (Z.callg rfl rfl (fun _ hS => hpr _ (hG.mono hS))) <| S.qu (Z.callg rfl rfl (fun _ hS => hid _ (hG.mono hS))) <| Q.as rfl <| Q.nt <| UW.ret <| S.rtR (fun _ => res_tmp rfl rfl) <| ?_
  rfl
end Go.Proofs.YtgmfgmbgmjbdhaaGreatDoor
end
section
namespace Go.Proofs.YtgmfgmbgmjbdhaaGreatDoor
open Go Go.RowKit Go.Eng
set_option linter.unusedSimpArgs false
set_option linter.unusedVariables false
set_option maxRecDepth 100000
set_option maxHeartbeats 4000000
theorem wideN_O (c : List Int) (k : Int) : ∀ j, O (wideN c k j)
  | 0 => O.empty
  | j + 1 => (wideN_O c k j).with _ _
theorem wide_O (c : List Int) (k : Int) : O (wideV c k) := wideN_O c k _
end Go.Proofs.YtgmfgmbgmjbdhaaGreatDoor
end
