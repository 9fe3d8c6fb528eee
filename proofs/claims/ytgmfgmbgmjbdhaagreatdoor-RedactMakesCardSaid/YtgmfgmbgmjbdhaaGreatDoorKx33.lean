/- Samples: values out of choices: what it computes. -/
import Derived.Test.YtgmfgmbgmjbdhaaGreatDoorKx32
namespace Go.Eng
open Go Go.RowKit
theorem S.cut2 {P : Program} {n : Nat} {Q : AEx → Sl → Hp → Prop} {H0 : Hp} {l : List (Nat × AV)} {objs : List (Nat × Ob)} {c c2 : Code} {α β : Type} (a0 : α) (b0 : β) (L : α → β → List (Nat × AV)) (O : α → β → List (Nat × Ob)) (hx : UW P n (thenA (MeetA H0 (fun s : α × β => L s.1 s.2) (fun s => O s.1 s.2) (fun s => s.1 = a0 ∧ s.2 = b0)) Q) H0 c l objs) (hy : UW P n Q H0 c2 (L a0 b0) (O a0 b0)) : UW P n Q H0 (.seq c c2) l objs :=
  S.cutA _ _ _ hx fun a h => by obtain ⟨a1, a2⟩ := a; obtain ⟨h1, h2⟩ := h; cases h1; cases h2; exact hy
end Go.Eng
namespace Go.Proofs.YtgmfgmbgmjbdhaaGreatDoor
open Go Go.RowKit Go.Eng
set_option linter.unusedSimpArgs false
set_option linter.unusedVariables false
set_option maxRecDepth 100000
set_option maxHeartbeats 4000000
theorem rem_nn {b k : Int} (h : 0 ≤ b) : 0 ≤ b.tmod k := Int.tmod_nonneg _ h
theorem rem_lt {b k : Int} (hk : 0 < k) : b.tmod k < k := Int.tmod_lt_of_pos _ hk
theorem bys_get {c : List Int} (hc : Bys c) {k : Nat} (h : k < c.length) : (c.map encB)[k]? = some (encB (c.getD k 0)) ∧ 0 ≤ c.getD k 0 ∧ c.getD k 0 < 256 := by
  rw [getD_at h]; exact ⟨u8s_get c k h, hc _ (List.getElem_mem h)⟩
theorem Bys.cut {c : List Int} (hc : Bys c) (m m' : Nat) : Bys ((c.take m').drop m) := fun b hb => hc b (List.mem_of_mem_take (List.mem_of_mem_drop hb))
theorem u8s_cut (c : List Int) (m m' : Nat) : AV.sl ((List.take m' (c.map encB)).drop m) = u8s ((c.take m').drop m) := by
  unfold u8s; rw [List.map_drop, List.map_take]
theorem kids_row (l : List V) (k : Nat) : ((List.drop (0 + k) (encVs l)).take (l.length - k)) = encVs (l.drop k) := by
  rw [Nat.zero_add, List.take_of_length_le (by rw [List.length_drop, encVs_len]; exact Nat.le_refl _), encVs_eq, encVs_eq, List.map_drop]
theorem keyI_nat (b1 : Int) (q : Nat) (h : 0 ≤ b1) : ((keyI b1 q : Nat) : Int) = (b1.tdiv 4 + 3 * (q : Int)).tmod 8 := by
  have := Int.tdiv_nonneg h (by decide : (0 : Int) ≤ 4)
  unfold keyI; exact Int.toNat_of_nonneg (rem_nn (by omega))
theorem keyI_get (b1 : Int) (q : Nat) (h : 0 ≤ b1) : (keyL.map encS)[keyI b1 q]? = some (encS (keyL.getD (keyI b1 q) ⟨#[]⟩)) := by
  have e := keyI_nat b1 q h
  have h2 := rem_lt (b := b1.tdiv 4 + 3 * (q : Int)) (k := 8) (by decide)
  have h3 : keyI b1 q < keyL.length := by show _ < 8; omega
  rw [getD_at h3]; exact strs_get _ _ h3
theorem kid_get (l : List V) (q : Nat) (h : q < l.length) : (encVs l)[q]? = some (encV (l.getD q zeroV)) := by
  rw [getD_at h]; exact encVs_get l q h
theorem val_spec (c : List Int) (hc : Bys c) (H : Hp) : ACall Tryz.prog 32 [u8s c] H (IsR H (.agg (encV (valOf c)))) := by
  have hml : (c.map encB).length = c.length := List.length_map ..
  refine UCall (n := 150) (H0 := H) (objs := []) Tryz.func32 (by kernel_rfl) rfl (by rw [Tryz.ntmps32]; rfl) .nil <| ?_
  refine Q.rg <| S.dd <| D.al z26 rfl rfl rfl fun p2 => Q.nt <| Q.rg <| Q.as rfl <| US.nilOwn 3 26 5 (by decide) rfl fun id => Q.nt <| Q.rg <| S.qu (Z.bl row23 rfl rfl (lit_ok rfl)) <| Q.as rfl <| Q.nt <| S.sq <| Q.rg <| Q.as rfl <| Q.nt <| UW.block <| S.loop (fun s : Nat × Nat => [(5, .v (.int .i64 ((2 * s.1 : Nat) : Int))), (3, .own s.2 0 (valL c s.1).length 5), (4, strs keyL), (0, u8s c), (2, .ptr p2 0)]) (fun s => [(s.2, .row 26 5 (encVs (valL c s.1))), (p2, .box 26 (encV zeroV))]) (fun s => s.1 ≤ c.length / 2 ∧ s.1 ≤ 30) (fun s => 30 - s.1) (0, id) ⟨Nat.zero_le _, Nat.zero_le _⟩ ⟨rfl, rfl, rfl, rfl, rfl, trivial⟩ (.refl _) <| ?_
  rintro ⟨n, id⟩ ⟨hn, hn30⟩
  simp only at hn hn30
  simp only
  have hvl := encVs_len (valL c n)
  by_cases hlt : 2 * n + 1 < c.length
  · by_cases hl30 : n < 30
    · obtain ⟨hg0, hb00, hb01⟩ := bys_get hc (by omega : 2 * n < c.length)
      obtain ⟨hg1, hb10, hb11⟩ := bys_get hc hlt
      obtain ⟨hL1, hL2⟩ := valL_ok c n (by omega)
      have hstep : valL c (n + 1) = stepV c (2 * n) (valL c n) := rfl
      unfold stepV at hstep
      have hm := (swV_fits (c.getD (2 * n) 0) (c.getD (2 * n + 1) 0) (textOf ((c.take (min c.length (2 * n + 3))).drop (2 * n))) (valL c n) (by omega) hL2).2
      generalize c.getD (2 * n) 0 = b0 at *
      generalize c.getD (2 * n + 1) 0 = b1 at *
      generalize valL c n = l at *
      have hr0 := rem_nn (k := 4) hb10
      have hr1 := rem_lt (b := b1) (k := 4) (by decide)
      have hr2 := rem_nn (k := 2) hb10
      have hr3 := rem_lt (b := b1) (k := 2) (by decide)
      have hd4 : b1.tdiv 4 = b1 / 4 := Int.tdiv_eq_ediv_of_nonneg hb10
      have hkl : (kidsV b1 l).length ≤ l.length := by unfold kidsV; rw [List.length_drop]; omega
      have hkf : ∀ x ∈ kidsV b1 l, Fits x := fun x hx => hL2 x (List.mem_of_mem_drop hx)
      have htk : takeK b1 l ≤ l.length := Nat.min_le_right _ _
      generalize hsw : swV b0 b1 (textOf ((c.take (min c.length (2 * n + 3))).drop (2 * n))) l = sw at *
      obtain ⟨m, x⟩ := sw
      simp only at hstep hm
      have hsl : (valL c (n + 1)).length = m + 1 := by rw [hstep, List.length_append, List.length_take, List.length_singleton]; omega
      have hse : (encVs l).take m ++ [encV x] = encVs (valL c (n + 1)) := by rw [hstep, encVs_eq, encVs_eq]; simp [List.map_take]
      focus
        refine S.sq <| Q.rg <| Q.mv rfl <| S.qu (Z.add rfl rfl (IntWalk.i64_in _ (by omega))) <| Q.mv rfl <| S.qu (Z.lns sl22 rfl) <| Q.bi rfl rfl rfl <| Q.mv rfl <| ?_
        refine S.tD 16 (fun hc16 => ?_) (fun hc16 => ?_)
        rotate_left
        omega
        refine Q.on (Z.mv rfl) <| Q.on (Z.bi rfl rfl rfl) <| Q.pk rfl rfl <| Q.nt <| S.cT rfl (decide_eq_true (by omega)) <| UW.skip <| UQ.then <| S.sq <| UW.block <| Q.rg <| Q.mv rfl <| Q.mv rfl <| S.qu (Z.add (r := ((2 * n + 1 : Nat) : Int)) rfl rfl (IntWalk.i64_in _ (by omega))) <| S.qu (Z.ia sl22 rfl rfl (by omega) (by assumption) (by rfl)) <| ?_
        refine S.qu (Z.lpc ty5 rfl) <| Q.bi rfl rfl rfl <| S.qu (Z.cv Tryz.underlying3 rfl (IntWalk.i64_in _ (by omega)) (by rw [Tryz.underlying5]; rfl)) <| ?_
        refine Q.mv rfl <| S.qu (Z.lno sl24 rfl) <| ?_
        refine S.qu (Z.eq (u' := .v (.int .i64 ((takeK b1 l : Nat) : Int))) (Z.min rfl rfl) (by unfold takeK; congr 2; split <;> omega)) ?_
        refine Q.as rfl <| Q.nt <| Q.rg <| Q.as rfl <| Q.nt <| Q.rg <| Q.mv rfl <| Q.mv rfl <| Q.mv rfl <| S.qu (Z.lno sl24 rfl) <| Q.mv rfl <| S.qu (Z.eq (u' := .v (.int .i64 ((l.length - takeK b1 l : Nat) : Int))) (Z.sub rfl rfl (IntWalk.i64_in _ (by omega))) (by congr 2; omega)) <| ?_
        refine S.qu (Z.slo sl24 rfl (.lo rfl) (by omega) (by omega)) <| S.dd <| D.apn row24 rfl rfl (.own (k := 0) (rs := encVs (kidsV b1 l)) rfl (by omega) (kids_row l (l.length - takeK b1 l))) (by have e := encVs_len (kidsV b1 l); omega) fun p39 => ?_
        refine US.freeze' 39 0 (rs := encVs (kidsV b1 l)) rfl rfl (Nat.le_of_eq (Nat.zero_add _)) (by rw [List.drop_zero, List.take_length]) <| ?_
        refine Q.as rfl <| Q.nt <| Q.rg <| S.qu (Z.bd [] bt26 rfl rfl rfl rfl rfl rfl) <| S.dd <| D.al z26 rfl rfl rfl fun p8 => S.s <| D.st 0 ty26 rfl rfl rfl rfl rfl rfl rfl rfl fun _ => Q.nt <| ?_
        refine S.cut2 m (encV x) (fun (m : Nat) (x : List AV) => [(3, .own id 0 m 5), (8, .ptr p8 0), (5, .v (.int .i64 ((2 * n : Nat) : Int))), (4, strs keyL), (0, u8s c), (2, .ptr p2 0)]) (fun m x => [(p8, .box 26 x), (id, .row 26 5 (encVs l)), (p2, .box 26 (encV zeroV))]) ?_ ?_
        refine Q.rg <| Q.mv rfl <| Q.mv rfl <| S.qu (Z.ia sl22 rfl rfl (by omega) (by assumption) (by rfl)) <| ?_
        refine S.qu (Z.lpc ty5 rfl) <| Q.bi rfl rfl rfl <| Q.nt <| UW.block <| Q.rg <| Q.bi rfl rfl rfl <| Q.as rfl <| Q.nt <| ?_
        refine S.cE rfl (fun hc46 => ?_) (fun hc46 => ?_)
        refine S.rg <| Q.mv rfl <| Q.mv rfl <| S.qu (Z.add (r := ((2 * n + 1 : Nat) : Int)) rfl rfl (IntWalk.i64_in _ (by omega))) <| S.qu (Z.ia sl22 rfl rfl (by omega) (by assumption) (by rfl)) <| ?_
        refine S.qu (Z.lpc ty5 rfl) <| Q.bi rfl rfl rfl <| S.qu (Z.cv Tryz.underlying2 rfl (IntWalk.i64_in _ (by omega)) (by rw [Tryz.underlying5]; rfl)) <| ?_
        refine S.qu (Z.bd [0, 1] bt26 rfl rfl rfl rfl rfl rfl) <| S.s <| D.st 0 ty26 rfl rfl rfl rfl rfl rfl rfl rfl fun _ => US.nil <| UQ.blockN <| ?_
        refine S.finA (_, _) ⟨rfl, rfl, rfl, rfl, rfl, rfl, trivial⟩ (.refl _) (by unfold swV at hsw; (repeat' split at hsw); all_goals first | omega | (cases hsw; exact ⟨by rfl, by rfl⟩))
        refine S.sq <| Q.rg <| Q.bi rfl rfl rfl <| Q.as rfl <| Q.nt <| ?_
        refine S.cE rfl (fun hc56 => ?_) (fun hc56 => ?_)
        refine UW.skip <| UQ.then <| S.cT rfl (beq_t (by omega)) <| S.rg <| Q.mv rfl <| Q.mv rfl <| S.qu (Z.add (r := ((2 * n + 1 : Nat) : Int)) rfl rfl (IntWalk.i64_in _ (by omega))) <| S.qu (Z.ia sl22 rfl rfl (by omega) (by assumption) (by rfl)) <| ?_
        refine S.qu (Z.lpc ty5 rfl) <| S.qu (Z.cv Tryz.underlying2 rfl (IntWalk.i64_in _ (by omega)) (by rw [Tryz.underlying5]; rfl)) <| ?_
        refine S.qu (Z.sub rfl rfl (IntWalk.i64_in _ (by omega))) <| S.qu (Z.bd [0, 1] bt26 rfl rfl rfl rfl rfl rfl) <| S.s <| D.st 0 ty26 rfl rfl rfl rfl rfl rfl rfl rfl fun _ => US.nil <| UQ.blockN <| ?_
        refine S.finA (_, _) ⟨rfl, rfl, rfl, rfl, rfl, rfl, trivial⟩ (.refl _) (by unfold swV at hsw; (repeat' split at hsw); all_goals first | omega | (cases hsw; exact ⟨by rfl, by rfl⟩))
        refine Q.rg <| Q.bi rfl rfl rfl <| Q.as rfl <| Q.nt <| ?_
        refine S.cE rfl (fun hc56 => ?_) (fun hc56 => ?_)
        refine UW.skip <| UQ.then <| S.cT rfl (beq_t (by omega)) <| S.rg <| Q.mv rfl <| Q.mv rfl <| S.qu (Z.add (r := ((2 * n + 1 : Nat) : Int)) rfl rfl (IntWalk.i64_in _ (by omega))) <| S.qu (Z.ia sl22 rfl rfl (by omega) (by assumption) (by rfl)) <| ?_
        refine S.qu (Z.lpc ty5 rfl) <| S.qu (Z.cv Tryz.underlying2 rfl (IntWalk.i64_in _ (by omega)) (by rw [Tryz.underlying5]; rfl)) <| ?_
        refine S.qu (Z.sub rfl rfl (IntWalk.i64_in _ (by omega))) <| S.qu (Z.bd [0, 1] bt26 rfl rfl rfl rfl rfl rfl) <| S.s <| D.st 0 ty26 rfl rfl rfl rfl rfl rfl rfl rfl fun _ => US.nil <| UQ.blockN <| ?_
        refine S.finA (_, _) ⟨rfl, rfl, rfl, rfl, rfl, rfl, trivial⟩ (.refl _) (by unfold swV at hsw; (repeat' split at hsw); all_goals first | omega | (cases hsw; exact ⟨by rfl, by rfl⟩))
        refine S.rg <| Q.bi rfl rfl rfl <| Q.as rfl <| Q.nt <| ?_
        refine S.cE rfl (fun hc56 => ?_) (fun hc56 => ?_)
        refine S.rg <| Q.mv rfl <| Q.mv rfl <| S.qu (Z.add (r := ((2 * n + 1 : Nat) : Int)) rfl rfl (IntWalk.i64_in _ (by omega))) <| S.qu (Z.ia sl22 rfl rfl (by omega) (by assumption) (by rfl)) <| ?_
        refine S.qu (Z.lpc ty5 rfl) <| S.qu (Z.cv Tryz.underlying2 rfl (IntWalk.i64_in _ (by omega)) (by rw [Tryz.underlying5]; rfl)) <| ?_
        refine S.qu (Z.sub rfl rfl (IntWalk.i64_in _ (by omega))) <| S.qu (Z.bd [0, 1] bt26 rfl rfl rfl rfl rfl rfl) <| S.s <| D.st 0 ty26 rfl rfl rfl rfl rfl rfl rfl rfl fun _ => US.nil <| UQ.blockN <| ?_
        refine S.finA (_, _) ⟨rfl, rfl, rfl, rfl, rfl, rfl, trivial⟩ (.refl _) (by unfold swV at hsw; (repeat' split at hsw); all_goals first | omega | (cases hsw; exact ⟨by rfl, by rfl⟩))
        refine Q.rg <| Q.bi rfl rfl rfl <| Q.as rfl <| Q.nt <| ?_
        refine S.cE rfl (fun hc68 => ?_) (fun hc68 => ?_)
        refine S.rg <| Q.mv rfl <| Q.mv rfl <| S.qu (Z.add (r := ((2 * n + 1 : Nat) : Int)) rfl rfl (IntWalk.i64_in _ (by omega))) <| S.qu (Z.ia sl22 rfl rfl (by omega) (by assumption) (by rfl)) <| ?_
        refine S.qu (Z.lpc ty5 rfl) <| Q.bi rfl rfl rfl <| S.qu (Z.cv Tryz.underlying2 rfl (IntWalk.i64_in _ (by omega)) (by rw [Tryz.underlying5]; rfl)) <| ?_
        refine S.qu (Z.sub rfl rfl (IntWalk.i64_in _ (by omega))) <| S.qu (Z.bd [0, 1] bt26 rfl rfl rfl rfl rfl rfl) <| S.s <| D.st 0 ty26 rfl rfl rfl rfl rfl rfl rfl rfl fun _ => US.nil <| UQ.blockN <| ?_
        refine S.finA (_, _) ⟨rfl, rfl, rfl, rfl, rfl, rfl, trivial⟩ (.refl _) (by unfold swV at hsw; (repeat' split at hsw); all_goals first | omega | (cases hsw; exact ⟨by rfl, by rfl⟩))
        refine S.sq <| Q.rg <| Q.bi rfl rfl rfl <| Q.as rfl <| Q.nt <| ?_
        refine S.cE rfl (fun hc79 => ?_) (fun hc79 => ?_)
        refine UW.skip <| UQ.then <| S.cT rfl (beq_t (by omega)) <| Q.rg <| Q.mv rfl <| Q.mv rfl <| Q.mv rfl <| S.qu (Z.lns sl22 rfl) <| Q.mv rfl <| S.qu (Z.add (r := ((2 * n + 3 : Nat) : Int)) rfl rfl (IntWalk.i64_in _ (by omega))) <| ?_
        refine S.qu (Z.eq (u' := .v (.int .i64 ((min c.length (2 * n + 3) : Nat) : Int))) (Z.min rfl rfl) (by rw [hml]; congr 2; split <;> omega)) ?_
        refine S.qu (Z.eq (u' := u8s ((c.take (min c.length (2 * n + 3))).drop (2 * n))) (Z.sls sl22 rfl (u8s_sz _) (.both rfl rfl) (by omega) (by omega) rfl) (u8s_cut _ _ _)) <| S.qu (Z.call rfl rfl (fun _ => text_spec _ (hc.cut _ _) _)) <| S.qu (Z.bd [0, 2] bt26 rfl rfl rfl rfl rfl rfl) <| S.s <| D.st 0 ty26 rfl rfl rfl rfl rfl rfl rfl rfl fun _ => Q.nt <| Q.rg <| Q.fa f26_2 rfl <| Q.lc 0 ty9 rfl rfl rfl <| S.qu (Z.call rfl rfl (fun _ => checkR_spec' _ (Nat.le_trans (textOf_size _) (by decide)) _)) <| Q.bi rfl rfl rfl <| Q.nt <| ?_
        refine S.cD rfl (fun hc95 => ?_) (fun hc95 => ?_)
        refine S.rg <| Q.fa f26_2 rfl <| S.s <| D.st 0 ty9 rfl rfl rfl rfl rfl rfl rfl rfl fun _ => US.nil <| UQ.blockN <| ?_
        refine S.finA (_, _) ⟨rfl, rfl, rfl, rfl, rfl, rfl, trivial⟩ (.refl _) (by unfold swV at hsw; (repeat' split at hsw); all_goals first | omega | (cases hsw; exact ⟨by rfl, by rfl⟩))
        refine UW.skip <| UQ.blockN <| ?_
        refine S.finA (_, _) ⟨rfl, rfl, rfl, rfl, rfl, rfl, trivial⟩ (.refl _) (by unfold swV at hsw; (repeat' split at hsw); all_goals first | omega | (cases hsw; exact ⟨by rfl, by rfl⟩))
        refine S.rg <| Q.bi rfl rfl rfl <| Q.as rfl <| Q.nt <| ?_
        refine S.cE rfl (fun hc79 => ?_) (fun hc79 => ?_)
        refine Q.rg <| Q.mv rfl <| Q.mv rfl <| Q.mv rfl <| S.qu (Z.lns sl22 rfl) <| Q.mv rfl <| S.qu (Z.add (r := ((2 * n + 3 : Nat) : Int)) rfl rfl (IntWalk.i64_in _ (by omega))) <| ?_
        refine S.qu (Z.eq (u' := .v (.int .i64 ((min c.length (2 * n + 3) : Nat) : Int))) (Z.min rfl rfl) (by rw [hml]; congr 2; split <;> omega)) ?_
        refine S.qu (Z.eq (u' := u8s ((c.take (min c.length (2 * n + 3))).drop (2 * n))) (Z.sls sl22 rfl (u8s_sz _) (.both rfl rfl) (by omega) (by omega) rfl) (u8s_cut _ _ _)) <| S.qu (Z.call rfl rfl (fun _ => text_spec _ (hc.cut _ _) _)) <| S.qu (Z.bd [0, 2] bt26 rfl rfl rfl rfl rfl rfl) <| S.s <| D.st 0 ty26 rfl rfl rfl rfl rfl rfl rfl rfl fun _ => Q.nt <| Q.rg <| Q.fa f26_2 rfl <| Q.lc 0 ty9 rfl rfl rfl <| S.qu (Z.call rfl rfl (fun _ => checkR_spec' _ (Nat.le_trans (textOf_size _) (by decide)) _)) <| Q.bi rfl rfl rfl <| Q.nt <| ?_
        refine S.cD rfl (fun hc95 => ?_) (fun hc95 => ?_)
        refine S.rg <| Q.fa f26_2 rfl <| S.s <| D.st 0 ty9 rfl rfl rfl rfl rfl rfl rfl rfl fun _ => US.nil <| UQ.blockN <| ?_
        refine S.finA (_, _) ⟨rfl, rfl, rfl, rfl, rfl, rfl, trivial⟩ (.refl _) (by unfold swV at hsw; (repeat' split at hsw); all_goals first | omega | (cases hsw; exact ⟨by rfl, by rfl⟩))
        refine UW.skip <| UQ.blockN <| ?_
        refine S.finA (_, _) ⟨rfl, rfl, rfl, rfl, rfl, rfl, trivial⟩ (.refl _) (by unfold swV at hsw; (repeat' split at hsw); all_goals first | omega | (cases hsw; exact ⟨by rfl, by rfl⟩))
        refine Q.rg <| Q.bi rfl rfl rfl <| Q.as rfl <| Q.nt <| ?_
        refine S.cE rfl (fun hc97 => ?_) (fun hc97 => ?_)
        refine Q.rg <| Q.mv rfl <| Q.mv rfl <| S.qu (Z.lno sl24 rfl) <| Q.mv rfl <| S.qu (Z.eq (u' := .v (.int .i64 ((l.length - takeK b1 l : Nat) : Int))) (Z.sub rfl rfl (IntWalk.i64_in _ (by omega))) (by congr 2; omega)) <| ?_
        refine S.qu (Z.slo sl24 rfl (.hi rfl) (by omega) (by omega)) <| Q.as rfl <| Q.nt <| S.rg <| Q.mv rfl <| S.qu (Z.bd [0, 4] bt26 rfl rfl rfl rfl rfl rfl) <| S.s <| D.st 0 ty26 rfl rfl rfl rfl rfl rfl rfl rfl fun _ => US.nil <| UQ.blockN <| ?_
        refine S.finA (_, _) ⟨rfl, rfl, rfl, rfl, rfl, rfl, trivial⟩ (.refl _) (by unfold swV at hsw; (repeat' split at hsw); all_goals first | omega | (cases hsw; exact ⟨by rfl, by rfl⟩))
        refine S.sq <| Q.rg <| Q.bi rfl rfl rfl <| Q.as rfl <| Q.nt <| ?_
        refine S.cE rfl (fun hc107 => ?_) (fun hc107 => ?_)
        refine UW.skip <| UQ.then <| S.cT rfl (beq_t (by omega)) <| Q.rg <| Q.mv rfl <| Q.mv rfl <| S.qu (Z.lno sl24 rfl) <| Q.mv rfl <| S.qu (Z.eq (u' := .v (.int .i64 ((l.length - takeK b1 l : Nat) : Int))) (Z.sub rfl rfl (IntWalk.i64_in _ (by omega))) (by congr 2; omega)) <| ?_
        refine S.qu (Z.slo sl24 rfl (.hi rfl) (by omega) (by omega)) <| Q.as rfl <| Q.nt <| Q.rg <| S.qu (Z.bd [0] bt26 rfl rfl rfl rfl rfl rfl) <| S.s <| D.st 0 ty26 rfl rfl rfl rfl rfl rfl rfl rfl fun _ => Q.nt <| Q.rg <| Q.as rfl <| Q.nt <| UW.block <| ?_
        rotate_left
        refine Q.rg <| Q.bi rfl rfl rfl <| Q.as rfl <| Q.nt <| ?_
        refine S.cE rfl (fun hc107 => ?_) (fun hc107 => ?_)
        refine UW.skip <| UQ.then <| S.cT rfl (beq_t (by omega)) <| Q.rg <| Q.mv rfl <| Q.mv rfl <| S.qu (Z.lno sl24 rfl) <| Q.mv rfl <| S.qu (Z.eq (u' := .v (.int .i64 ((l.length - takeK b1 l : Nat) : Int))) (Z.sub rfl rfl (IntWalk.i64_in _ (by omega))) (by congr 2; omega)) <| ?_
        refine S.qu (Z.slo sl24 rfl (.hi rfl) (by omega) (by omega)) <| Q.as rfl <| Q.nt <| Q.rg <| S.qu (Z.bd [0] bt26 rfl rfl rfl rfl rfl rfl) <| S.s <| D.st 0 ty26 rfl rfl rfl rfl rfl rfl rfl rfl fun _ => Q.nt <| Q.rg <| Q.as rfl <| Q.nt <| UW.block <| ?_
        rotate_left
        refine S.rg <| Q.bi rfl rfl rfl <| Q.as rfl <| Q.nt <| ?_
        refine S.cE rfl (fun hc107 => ?_) (fun hc107 => ?_)
        refine Q.rg <| Q.mv rfl <| Q.mv rfl <| S.qu (Z.lno sl24 rfl) <| Q.mv rfl <| S.qu (Z.eq (u' := .v (.int .i64 ((l.length - takeK b1 l : Nat) : Int))) (Z.sub rfl rfl (IntWalk.i64_in _ (by omega))) (by congr 2; omega)) <| ?_
        refine S.qu (Z.slo sl24 rfl (.hi rfl) (by omega) (by omega)) <| Q.as rfl <| Q.nt <| Q.rg <| S.qu (Z.bd [0] bt26 rfl rfl rfl rfl rfl rfl) <| S.s <| D.st 0 ty26 rfl rfl rfl rfl rfl rfl rfl rfl fun _ => Q.nt <| Q.rg <| Q.as rfl <| Q.nt <| UW.block <| ?_
        rotate_left
        refine UW.skip <| UQ.blockN <| ?_
        refine S.finA (_, _) ⟨rfl, rfl, rfl, rfl, rfl, rfl, trivial⟩ (.refl _) (by unfold swV at hsw; (repeat' split at hsw); all_goals first | omega | (cases hsw; exact ⟨by rfl, by rfl⟩))
        refine S.rg <| Q.mv rfl <| S.qu (Z.ldw 0 ty26 rfl rfl (encV_len _)) <| S.qu (Z.bl row24 rfl rfl (by intro cs h; cases List.mem_singleton.1 h; exact ⟨by exact encV_cell _, by exact encV_len _⟩)) <| ?_
        refine S.dd <| D.ap 1 row24 rfl rfl (by omega) rfl (.sl (by intro cs h; cases List.mem_singleton.1 h; exact encV_len _)) (by (simp; omega)) hse fun p147 => ?_
        refine S.eq 147 (u := .own p147 0 (m + 1) 5) (u' := .own p147 0 (valL c (n + 1)).length 5) (by rw [hsl]) <| ?_
        refine Q.as rfl <| US.nil <| UQ.blockN <| UQ.then <| S.rg <| Q.mv rfl <| S.qu (Z.add (r := ((2 * (n + 1) : Nat) : Int)) rfl rfl (IntWalk.i64_in _ (by omega))) <| Q.as rfl <| US.nil <| ?_
        refine S.back (_, _) ⟨rfl, rfl, rfl, rfl, rfl, trivial⟩ (by repeat (first | exact List.Sublist.refl _ | refine .cons_cons _ ?_ | refine .cons _ ?_)) (by omega) (by omega)
      · refine S.loop (fun q : Nat => [(9, .v (.int .i64 (q : Int))), (7, .sl (encVs (kidsV b1 l))), (8, .ptr p8 0), (3, .own id 0 (l.length - takeK b1 l - 0) 5), (5, .v (.int .i64 ((2 * n : Nat) : Int))), (4, strs keyL), (0, u8s c), (2, .ptr p2 0)]) (fun q => [(p8, .box 26 (encV (objF b1 (kidsV b1 l) q))), (id, .row 26 5 (encVs l)), (p2, .box 26 (encV zeroV))]) (fun q => q ≤ (kidsV b1 l).length) (fun q => (kidsV b1 l).length - q) 0 (Nat.zero_le _) ⟨rfl, rfl, rfl, rfl, rfl, rfl, rfl, rfl, trivial⟩ (.refl _) <| ?_
        rintro q hq
        have hkv := encVs_len (kidsV b1 l)
        by_cases hql : q < (kidsV b1 l).length
        · have hF := objF_fits b1 (kidsV b1 l) hkf q (by omega)
          have hKs := (objF_ok b1 (kidsV b1 l) hkf q).2.2.2.1
          have hgk := keyI_get b1 q hb10
          have hki := keyI_nat b1 q hb10
          have hgv := kid_get (kidsV b1 l) q hql
          refine S.sq <| Q.rg <| Q.mv rfl <| Q.mv rfl <| S.qu (Z.lns sl24 rfl) <| Q.bi rfl rfl rfl <| Q.nt <| S.cT rfl (decide_eq_true (by omega)) <| UW.skip <| UQ.then <| S.sq <| UW.block <| ?_
          refine' UW.draw' (by kernel_rfl) [0, 0, 0, 0, 8, 28, 60, 124, 252, 0, 512, 2044, 4092, 8190, 16382, 0, 0, 98304, 229376, 524287, 1048575] [some 124, some 125, some 126, some 127, some 128, some 129, some 130, some 131, some 132, some 133, some 134, some 135, some 136, some 137, some 138, some 139, some 140, some 141, some 142, some 143, none] [some (124, _), some (125, _), some (126, _), some (127, _), some (128, _), some (129, _), some (130, _), some (131, _), some (132, _), some (133, _), some (134, _), some (135, _), some (136, _), some (137, _), some (138, _), some (139, _), some (140, _), some (141, _), some (142, _), some (143, _), none] [20] [0, 6, 14, 18] rfl (by decide) (by decide) (QAll.held (by decide) rfl rfl ?q2x0_0 (QAll.free (by decide) rfl rfl ?q2x0_1 (QAll.free (by decide) rfl rfl ?q2x0_2 (QAll.free (by decide) rfl rfl ?q2x0_3 (QAll.free (by decide) rfl rfl ?q2x0_4 (QAll.free (by decide) rfl rfl ?q2x0_5 (QAll.held (by decide) rfl rfl ?q2x0_6 (QAll.free (by decide) rfl rfl ?q2x0_7 (QAll.free (by decide) rfl rfl ?q2x0_8 (QAll.free (by decide) rfl rfl ?q2x0_9 (QAll.free (by decide) rfl rfl ?q2x0_10 (QAll.free (by decide) rfl rfl ?q2x0_11 (QAll.free (by decide) rfl rfl ?q2x0_12 (QAll.free (by decide) rfl rfl ?q2x0_13 (QAll.held (by decide) rfl rfl ?q2x0_14 (QAll.free (by decide) rfl rfl ?q2x0_15 (QAll.free (by decide) rfl rfl ?q2x0_16 (QAll.free (by decide) rfl rfl ?q2x0_17 (QAll.held (by decide) rfl rfl ?q2x0_18 (QAll.free (by decide) rfl rfl ?q2x0_19 (QAll.skip QAll.nil))))))))))))))))))))) ?q2x0_k
          case q2x0_0 => exact Z.ldw 0 ty26 rfl rfl (encV_len _)
          case q2x0_1 => (intro _; exact Z.mv rfl)
          case q2x0_2 => (intro _; exact Z.mv rfl)
          case q2x0_3 => (intro _; exact Z.mv rfl)
          case q2x0_4 => (intro _; exact Z.add (r := ((2 * n + 1 : Nat) : Int)) rfl rfl (IntWalk.i64_in _ (by omega)))
          case q2x0_5 => (intro _; exact Z.ia sl22 rfl rfl (by omega) hg1 rfl)
          case q2x0_6 => exact Z.lpc ty5 rfl
          case q2x0_7 => (intro _; exact Z.eq (u' := .v (.int .u8 (b1.tdiv 4))) (Z.bi rfl rfl rfl) (by congr 2; exact IntWalk.u8_in _ (by omega)))
          case q2x0_8 => (intro _; exact Z.cv Tryz.underlying3 rfl (IntWalk.i64_in _ (by omega)) (by rw [Tryz.underlying5]; rfl))
          case q2x0_9 => (intro _; exact Z.mv rfl)
          case q2x0_10 => (intro _; exact Z.mul rfl rfl (IntWalk.i64_in _ (by omega)))
          case q2x0_11 => (intro _; exact Z.add rfl rfl (IntWalk.i64_in _ (by omega)))
          case q2x0_12 => (intro _; exact Z.eq (u' := .v (.int .i64 ((keyI b1 q : Nat) : Int))) (Z.bi rfl rfl rfl) (by rw [hki]))
          case q2x0_13 => (intro _; exact Z.ia sl23 rfl rfl (by omega) (by assumption) (by rfl))
          case q2x0_14 => exact Z.lpc ty9 rfl
          case q2x0_15 => (intro _; exact Z.mv rfl)
          case q2x0_16 => (intro _; exact Z.mv rfl)
          case q2x0_17 => (intro _; exact Z.ia sl24 rfl rfl (by omega) (by assumption) (by exact encV_len _))
          case q2x0_18 => exact Z.lpa ty26 rfl (encV_len _)
          case q2x0_19 => (intro _; exact Z.eq (u' := .agg (encV (objF b1 (kidsV b1 l) (q + 1)))) (Z.call rfl rfl (fun _ => withR_spec _ hF hKs _ _ _)) rfl)
          refine CH.cons0 rfl rfl <| D.stw 0 ty26 rfl rfl rfl rfl (by exact encV_cell _) (encV_len _) (encV_len _) rfl fun _ => ?_
          refine CH.nil <| ?_
          simp only [app, finL]
          refine UQ.blockN <| UQ.then <| S.rg <| Q.mv rfl <| S.qu (Z.add (r := ((q + 1 : Nat) : Int)) rfl rfl (IntWalk.i64_in _ (by omega))) <| Q.as rfl <| US.nil <| ?_
          refine S.back _ ⟨rfl, rfl, rfl, rfl, rfl, rfl, rfl, rfl, trivial⟩ (.refl _) (by omega) (by omega)
        · have hqe : q = (kidsV b1 l).length := by omega
          refine S.sq <| Q.rg <| Q.mv rfl <| Q.mv rfl <| S.qu (Z.lns sl24 rfl) <| Q.bi rfl rfl rfl <| Q.nt <| S.cF rfl (decide_eq_false (by omega)) <| UW.exit <| UQ.pass <| UQ.pass <| UQ.here <| UQ.blockN <| ?_
          refine S.finA (_, _) ⟨rfl, rfl, rfl, rfl, rfl, rfl, trivial⟩ (.refl _) (by unfold swV at hsw; (repeat' split at hsw); all_goals first | omega | (cases hsw; exact ⟨by rfl, by rw [hqe]⟩))
      · refine S.loop (fun q : Nat => [(9, .v (.int .i64 (q : Int))), (7, .sl (encVs (kidsV b1 l))), (8, .ptr p8 0), (3, .own id 0 (l.length - takeK b1 l - 0) 5), (5, .v (.int .i64 ((2 * n : Nat) : Int))), (4, strs keyL), (0, u8s c), (2, .ptr p2 0)]) (fun q => [(p8, .box 26 (encV (objF b1 (kidsV b1 l) q))), (id, .row 26 5 (encVs l)), (p2, .box 26 (encV zeroV))]) (fun q => q ≤ (kidsV b1 l).length) (fun q => (kidsV b1 l).length - q) 0 (Nat.zero_le _) ⟨rfl, rfl, rfl, rfl, rfl, rfl, rfl, rfl, trivial⟩ (.refl _) <| ?_
        rintro q hq
        have hkv := encVs_len (kidsV b1 l)
        by_cases hql : q < (kidsV b1 l).length
        · have hF := objF_fits b1 (kidsV b1 l) hkf q (by omega)
          have hKs := (objF_ok b1 (kidsV b1 l) hkf q).2.2.2.1
          have hgk := keyI_get b1 q hb10
          have hki := keyI_nat b1 q hb10
          have hgv := kid_get (kidsV b1 l) q hql
          refine S.sq <| Q.rg <| Q.mv rfl <| Q.mv rfl <| S.qu (Z.lns sl24 rfl) <| Q.bi rfl rfl rfl <| Q.nt <| S.cT rfl (decide_eq_true (by omega)) <| UW.skip <| UQ.then <| S.sq <| UW.block <| ?_
          refine' UW.draw' (by kernel_rfl) [0, 0, 0, 0, 8, 28, 60, 124, 252, 0, 512, 2044, 4092, 8190, 16382, 0, 0, 98304, 229376, 524287, 1048575] [some 124, some 125, some 126, some 127, some 128, some 129, some 130, some 131, some 132, some 133, some 134, some 135, some 136, some 137, some 138, some 139, some 140, some 141, some 142, some 143, none] [some (124, _), some (125, _), some (126, _), some (127, _), some (128, _), some (129, _), some (130, _), some (131, _), some (132, _), some (133, _), some (134, _), some (135, _), some (136, _), some (137, _), some (138, _), some (139, _), some (140, _), some (141, _), some (142, _), some (143, _), none] [20] [0, 6, 14, 18] rfl (by decide) (by decide) (QAll.held (by decide) rfl rfl ?q4x0_0 (QAll.free (by decide) rfl rfl ?q4x0_1 (QAll.free (by decide) rfl rfl ?q4x0_2 (QAll.free (by decide) rfl rfl ?q4x0_3 (QAll.free (by decide) rfl rfl ?q4x0_4 (QAll.free (by decide) rfl rfl ?q4x0_5 (QAll.held (by decide) rfl rfl ?q4x0_6 (QAll.free (by decide) rfl rfl ?q4x0_7 (QAll.free (by decide) rfl rfl ?q4x0_8 (QAll.free (by decide) rfl rfl ?q4x0_9 (QAll.free (by decide) rfl rfl ?q4x0_10 (QAll.free (by decide) rfl rfl ?q4x0_11 (QAll.free (by decide) rfl rfl ?q4x0_12 (QAll.free (by decide) rfl rfl ?q4x0_13 (QAll.held (by decide) rfl rfl ?q4x0_14 (QAll.free (by decide) rfl rfl ?q4x0_15 (QAll.free (by decide) rfl rfl ?q4x0_16 (QAll.free (by decide) rfl rfl ?q4x0_17 (QAll.held (by decide) rfl rfl ?q4x0_18 (QAll.free (by decide) rfl rfl ?q4x0_19 (QAll.skip QAll.nil))))))))))))))))))))) ?q4x0_k
          case q4x0_0 => exact Z.ldw 0 ty26 rfl rfl (encV_len _)
          case q4x0_1 => (intro _; exact Z.mv rfl)
          case q4x0_2 => (intro _; exact Z.mv rfl)
          case q4x0_3 => (intro _; exact Z.mv rfl)
          case q4x0_4 => (intro _; exact Z.add (r := ((2 * n + 1 : Nat) : Int)) rfl rfl (IntWalk.i64_in _ (by omega)))
          case q4x0_5 => (intro _; exact Z.ia sl22 rfl rfl (by omega) hg1 rfl)
          case q4x0_6 => exact Z.lpc ty5 rfl
          case q4x0_7 => (intro _; exact Z.eq (u' := .v (.int .u8 (b1.tdiv 4))) (Z.bi rfl rfl rfl) (by congr 2; exact IntWalk.u8_in _ (by omega)))
          case q4x0_8 => (intro _; exact Z.cv Tryz.underlying3 rfl (IntWalk.i64_in _ (by omega)) (by rw [Tryz.underlying5]; rfl))
          case q4x0_9 => (intro _; exact Z.mv rfl)
          case q4x0_10 => (intro _; exact Z.mul rfl rfl (IntWalk.i64_in _ (by omega)))
          case q4x0_11 => (intro _; exact Z.add rfl rfl (IntWalk.i64_in _ (by omega)))
          case q4x0_12 => (intro _; exact Z.eq (u' := .v (.int .i64 ((keyI b1 q : Nat) : Int))) (Z.bi rfl rfl rfl) (by rw [hki]))
          case q4x0_13 => (intro _; exact Z.ia sl23 rfl rfl (by omega) (by assumption) (by rfl))
          case q4x0_14 => exact Z.lpc ty9 rfl
          case q4x0_15 => (intro _; exact Z.mv rfl)
          case q4x0_16 => (intro _; exact Z.mv rfl)
          case q4x0_17 => (intro _; exact Z.ia sl24 rfl rfl (by omega) (by assumption) (by exact encV_len _))
          case q4x0_18 => exact Z.lpa ty26 rfl (encV_len _)
          case q4x0_19 => (intro _; exact Z.eq (u' := .agg (encV (objF b1 (kidsV b1 l) (q + 1)))) (Z.call rfl rfl (fun _ => withR_spec _ hF hKs _ _ _)) rfl)
          refine CH.cons0 rfl rfl <| D.stw 0 ty26 rfl rfl rfl rfl (by exact encV_cell _) (encV_len _) (encV_len _) rfl fun _ => ?_
          refine CH.nil <| ?_
          simp only [app, finL]
          refine UQ.blockN <| UQ.then <| S.rg <| Q.mv rfl <| S.qu (Z.add (r := ((q + 1 : Nat) : Int)) rfl rfl (IntWalk.i64_in _ (by omega))) <| Q.as rfl <| US.nil <| ?_
          refine S.back _ ⟨rfl, rfl, rfl, rfl, rfl, rfl, rfl, rfl, trivial⟩ (.refl _) (by omega) (by omega)
        · have hqe : q = (kidsV b1 l).length := by omega
          refine S.sq <| Q.rg <| Q.mv rfl <| Q.mv rfl <| S.qu (Z.lns sl24 rfl) <| Q.bi rfl rfl rfl <| Q.nt <| S.cF rfl (decide_eq_false (by omega)) <| UW.exit <| UQ.pass <| UQ.pass <| UQ.here <| UQ.blockN <| ?_
          refine S.finA (_, _) ⟨rfl, rfl, rfl, rfl, rfl, rfl, trivial⟩ (.refl _) (by unfold swV at hsw; (repeat' split at hsw); all_goals first | omega | (cases hsw; exact ⟨by rfl, by rw [hqe]⟩))
      · refine S.loop (fun q : Nat => [(9, .v (.int .i64 (q : Int))), (7, .sl (encVs (kidsV b1 l))), (8, .ptr p8 0), (3, .own id 0 (l.length - takeK b1 l - 0) 5), (5, .v (.int .i64 ((2 * n : Nat) : Int))), (4, strs keyL), (0, u8s c), (2, .ptr p2 0)]) (fun q => [(p8, .box 26 (encV (objF b1 (kidsV b1 l) q))), (id, .row 26 5 (encVs l)), (p2, .box 26 (encV zeroV))]) (fun q => q ≤ (kidsV b1 l).length) (fun q => (kidsV b1 l).length - q) 0 (Nat.zero_le _) ⟨rfl, rfl, rfl, rfl, rfl, rfl, rfl, rfl, trivial⟩ (.refl _) <| ?_
        rintro q hq
        have hkv := encVs_len (kidsV b1 l)
        by_cases hql : q < (kidsV b1 l).length
        · have hF := objF_fits b1 (kidsV b1 l) hkf q (by omega)
          have hKs := (objF_ok b1 (kidsV b1 l) hkf q).2.2.2.1
          have hgk := keyI_get b1 q hb10
          have hki := keyI_nat b1 q hb10
          have hgv := kid_get (kidsV b1 l) q hql
          refine S.sq <| Q.rg <| Q.mv rfl <| Q.mv rfl <| S.qu (Z.lns sl24 rfl) <| Q.bi rfl rfl rfl <| Q.nt <| S.cT rfl (decide_eq_true (by omega)) <| UW.skip <| UQ.then <| S.sq <| UW.block <| ?_
          refine' UW.draw' (by kernel_rfl) [0, 0, 0, 0, 8, 28, 60, 124, 252, 0, 512, 2044, 4092, 8190, 16382, 0, 0, 98304, 229376, 524287, 1048575] [some 124, some 125, some 126, some 127, some 128, some 129, some 130, some 131, some 132, some 133, some 134, some 135, some 136, some 137, some 138, some 139, some 140, some 141, some 142, some 143, none] [some (124, _), some (125, _), some (126, _), some (127, _), some (128, _), some (129, _), some (130, _), some (131, _), some (132, _), some (133, _), some (134, _), some (135, _), some (136, _), some (137, _), some (138, _), some (139, _), some (140, _), some (141, _), some (142, _), some (143, _), none] [20] [0, 6, 14, 18] rfl (by decide) (by decide) (QAll.held (by decide) rfl rfl ?q6x0_0 (QAll.free (by decide) rfl rfl ?q6x0_1 (QAll.free (by decide) rfl rfl ?q6x0_2 (QAll.free (by decide) rfl rfl ?q6x0_3 (QAll.free (by decide) rfl rfl ?q6x0_4 (QAll.free (by decide) rfl rfl ?q6x0_5 (QAll.held (by decide) rfl rfl ?q6x0_6 (QAll.free (by decide) rfl rfl ?q6x0_7 (QAll.free (by decide) rfl rfl ?q6x0_8 (QAll.free (by decide) rfl rfl ?q6x0_9 (QAll.free (by decide) rfl rfl ?q6x0_10 (QAll.free (by decide) rfl rfl ?q6x0_11 (QAll.free (by decide) rfl rfl ?q6x0_12 (QAll.free (by decide) rfl rfl ?q6x0_13 (QAll.held (by decide) rfl rfl ?q6x0_14 (QAll.free (by decide) rfl rfl ?q6x0_15 (QAll.free (by decide) rfl rfl ?q6x0_16 (QAll.free (by decide) rfl rfl ?q6x0_17 (QAll.held (by decide) rfl rfl ?q6x0_18 (QAll.free (by decide) rfl rfl ?q6x0_19 (QAll.skip QAll.nil))))))))))))))))))))) ?q6x0_k
          case q6x0_0 => exact Z.ldw 0 ty26 rfl rfl (encV_len _)
          case q6x0_1 => (intro _; exact Z.mv rfl)
          case q6x0_2 => (intro _; exact Z.mv rfl)
          case q6x0_3 => (intro _; exact Z.mv rfl)
          case q6x0_4 => (intro _; exact Z.add (r := ((2 * n + 1 : Nat) : Int)) rfl rfl (IntWalk.i64_in _ (by omega)))
          case q6x0_5 => (intro _; exact Z.ia sl22 rfl rfl (by omega) hg1 rfl)
          case q6x0_6 => exact Z.lpc ty5 rfl
          case q6x0_7 => (intro _; exact Z.eq (u' := .v (.int .u8 (b1.tdiv 4))) (Z.bi rfl rfl rfl) (by congr 2; exact IntWalk.u8_in _ (by omega)))
          case q6x0_8 => (intro _; exact Z.cv Tryz.underlying3 rfl (IntWalk.i64_in _ (by omega)) (by rw [Tryz.underlying5]; rfl))
          case q6x0_9 => (intro _; exact Z.mv rfl)
          case q6x0_10 => (intro _; exact Z.mul rfl rfl (IntWalk.i64_in _ (by omega)))
          case q6x0_11 => (intro _; exact Z.add rfl rfl (IntWalk.i64_in _ (by omega)))
          case q6x0_12 => (intro _; exact Z.eq (u' := .v (.int .i64 ((keyI b1 q : Nat) : Int))) (Z.bi rfl rfl rfl) (by rw [hki]))
          case q6x0_13 => (intro _; exact Z.ia sl23 rfl rfl (by omega) (by assumption) (by rfl))
          case q6x0_14 => exact Z.lpc ty9 rfl
          case q6x0_15 => (intro _; exact Z.mv rfl)
          case q6x0_16 => (intro _; exact Z.mv rfl)
          case q6x0_17 => (intro _; exact Z.ia sl24 rfl rfl (by omega) (by assumption) (by exact encV_len _))
          case q6x0_18 => exact Z.lpa ty26 rfl (encV_len _)
          case q6x0_19 => (intro _; exact Z.eq (u' := .agg (encV (objF b1 (kidsV b1 l) (q + 1)))) (Z.call rfl rfl (fun _ => withR_spec _ hF hKs _ _ _)) rfl)
          refine CH.cons0 rfl rfl <| D.stw 0 ty26 rfl rfl rfl rfl (by exact encV_cell _) (encV_len _) (encV_len _) rfl fun _ => ?_
          refine CH.nil <| ?_
          simp only [app, finL]
          refine UQ.blockN <| UQ.then <| S.rg <| Q.mv rfl <| S.qu (Z.add (r := ((q + 1 : Nat) : Int)) rfl rfl (IntWalk.i64_in _ (by omega))) <| Q.as rfl <| US.nil <| ?_
          refine S.back _ ⟨rfl, rfl, rfl, rfl, rfl, rfl, rfl, rfl, trivial⟩ (.refl _) (by omega) (by omega)
        · have hqe : q = (kidsV b1 l).length := by omega
          refine S.sq <| Q.rg <| Q.mv rfl <| Q.mv rfl <| S.qu (Z.lns sl24 rfl) <| Q.bi rfl rfl rfl <| Q.nt <| S.cF rfl (decide_eq_false (by omega)) <| UW.exit <| UQ.pass <| UQ.pass <| UQ.here <| UQ.blockN <| ?_
          refine S.finA (_, _) ⟨rfl, rfl, rfl, rfl, rfl, rfl, trivial⟩ (.refl _) (by unfold swV at hsw; (repeat' split at hsw); all_goals first | omega | (cases hsw; exact ⟨by rfl, by rw [hqe]⟩))
    · focus
        refine S.sq <| Q.rg <| Q.mv rfl <| S.qu (Z.add rfl rfl (IntWalk.i64_in _ (by omega))) <| Q.mv rfl <| S.qu (Z.lns sl22 rfl) <| Q.bi rfl rfl rfl <| Q.mv rfl <| ?_
        refine S.tD 16 (fun hc16 => ?_) (fun hc16 => ?_)
        rotate_left
        omega
        refine Q.on (Z.mv rfl) <| Q.on (Z.bi rfl rfl rfl) <| Q.pk rfl rfl <| Q.nt <| S.cF rfl (decide_eq_false (by omega)) <| UW.exit <| UQ.pass <| UQ.pass <| UQ.here <| UQ.then <| Q.rg <| Q.mv rfl <| US.freeze' 148 0 (rs := encVs (valL c n)) rfl rfl (Nat.le_of_eq (by omega)) (by rw [List.drop_zero, ← hvl, List.take_length]) <| ?_
        refine S.qu (Z.bd [0, 4] bt26 rfl rfl rfl rfl rfl rfl) <| S.s <| D.st 0 ty26 rfl rfl rfl rfl rfl rfl rfl rfl fun _ => Q.nt <| UW.ret <| S.rtR (fun hd => res_cell (k := 0) hd rfl rfl rfl st26 sz26) <| ?_
        focus (rw [show valOf c = .mk 4 0 ⟨#[]⟩ [] (valL c n) from by unfold valOf; congr 2; omega]; rfl; done)
  · refine S.sq <| Q.rg <| Q.mv rfl <| S.qu (Z.add rfl rfl (IntWalk.i64_in _ (by omega))) <| Q.mv rfl <| S.qu (Z.lns sl22 rfl) <| Q.bi rfl rfl rfl <| Q.mv rfl <| ?_
    refine S.tD 16 (fun hc16 => ?_) (fun hc16 => ?_)
    omega
    refine Q.of <| Q.of <| Q.pk rfl rfl <| Q.nt <| S.cF rfl rfl <| UW.exit <| UQ.pass <| UQ.pass <| UQ.here <| UQ.then <| Q.rg <| Q.mv rfl <| US.freeze' 148 0 (rs := encVs (valL c n)) rfl rfl (Nat.le_of_eq (by omega)) (by rw [List.drop_zero, ← hvl, List.take_length]) <| ?_
    refine S.qu (Z.bd [0, 4] bt26 rfl rfl rfl rfl rfl rfl) <| S.s <| D.st 0 ty26 rfl rfl rfl rfl rfl rfl rfl rfl fun _ => Q.nt <| UW.ret <| S.rtR (fun hd => res_cell (k := 0) hd rfl rfl rfl st26 sz26) <| ?_
    focus (rw [show valOf c = .mk 4 0 ⟨#[]⟩ [] (valL c n) from by unfold valOf; congr 2; omega]; rfl; done)
end Go.Proofs.YtgmfgmbgmjbdhaaGreatDoor
