/- The law ValueCopy: what it answers. -/
import Derived.Test.YtopaddebalfoeaaL2
namespace Go.Eng
open Go Go.RowKit
/-- All cells of a row are as long as its elements are. -/
theorem US.rowsz {P : Program} {n : Nat} {ops : Array Oper} {Q : AEx → Sl → Hp → Prop} {H0 : Hp} {rest : List Oper} {l : List (Nat × AV)} {objs : List (Nat × Ob)} {id e sz : Nat} {rows : List (List AV)} (k : Nat) (h2 : objs[k]? = some (id, .row e sz rows))
    (hk : (∀ cs ∈ rows, cs.length = sz) → US P n ops Q H0 rest l objs) : US P n ops Q H0 rest l objs := by
  intro hd E a w hi
  obtain ⟨ρ, h1, h3, h4⟩ := hi.rel
  obtain ⟨v, _, _, _, _, hsz, _⟩ := h1.ob _ _ (hd.at_ h2)
  exact hk hsz hd E a w hi
end Go.Eng
namespace Go.Proofs.Ytopaddebalfoeaa
open Go Go.RowKit Go.Eng
set_option linter.unusedSimpArgs false
set_option linter.unusedVariables false
set_option maxRecDepth 100000
set_option maxHeartbeats 4000000
theorem eqT_self (a : ByteArray) : eqT a a = true := by unfold eqT; simp
theorem eqBy_self {α : Type} {f : α → α → Bool} (l : List α) (h : ∀ a ∈ l, f a a = true) : eqBy f l l = true :=
  eqBy_true rfl fun i h1 _ => h _ (List.getElem_mem h1)
theorem same_self (x : V) (hx : Fits x) : sameV x x = true := by
  induction hx with
  | mk k n t ks vs h1 h2 h ih =>
  rw [sameV, samesV_eq, eqBy_self _ ih, eqBy_self _ (fun a _ => eqT_self a), eqT_self]
  simp
/-- What Get gives where the key is there: its lists lie in new rows. -/
def GetOwn (H : Hp) (x : V) (u : AV) (H' : Hp) : Prop := ∃ news, Dist H news ∧ H' = extH H news ∧ ∃ i j, u = .tup [.agg [.v (.int .i64 x.k), .v (.int .i64 x.n), .v (.string x.t), .own i 0 x.ks.length 1, .own j 0 x.vs.length 5], .v (.bool true)] ∧ news = [(j, .row 27 5 (encVs x.vs)), (i, .row 9 1 (x.ks.map encS))]
theorem fits_kid2 {k n : Int} {t : ByteArray} {ks : List ByteArray} {vs : List V} (h : Fits (.mk k n t ks vs)) {j : Nat} (hj : j < vs.length) : Fits (vs.getD j zeroV) := by cases h with | mk _ _ _ _ _ h1 h2 h3 => exact h3 _ (getD_mem hj)
theorem get_own (x : V) (hx : Fits x) (s : ByteArray) (i : Nat) (hp : pl x s = some i) (H : Hp) :
    ACall Try.prog 23 [.agg (encV x), .v (.string s)] H (GetOwn H (x.vs.getD i zeroV)) := by
  have hlt := (pl_lt hp).1
  obtain ⟨k, n, t, ks, vs⟩ := x
  simp only [vvs] at hlt ⊢
  have hkg := kid_get vs i hlt
  have hfk := fits_kid2 hx hlt
  generalize vs.getD i zeroV = y at *
  refine UCall (n := 19) (H0 := H) (objs := []) Try.func23 (by kernel_rfl) rfl (by rw [Try.ntmps23]; rfl) .nil <| ?_
  refine Q.rg <| S.dd <| D.box rfl rfl rfl fun p2 => S.dd <| D.al z27 rfl rfl rfl fun p4 => Q.as rfl <| Q.nt <| Q.rg <| S.qu (Z.ldw 1 ty27 rfl rfl rfl) <| Q.mv rfl <| S.qu (Z.call rfl rfl (fun _ => place_at hx hp _)) <| Q.as rfl <| Q.nt <| S.sq <| Q.rg <| Q.mv rfl <| Q.bi rfl rfl rfl <| Q.nt <| S.cF rfl (decide_eq_false (by omega)) <| UW.skip <| UQ.then <| Q.rg <| Q.fa f27_4 rfl <| Q.lc 1 ty25 rfl rfl rfl <| Q.mv rfl <| S.qu (Z.ia sl25 rfl rfl (by omega) (by assumption) (by exact encV_len _)) <| ?_
  refine S.qu (Z.lpa ty27 rfl (encV_len _)) <| S.dd <| D.cn rfl rfl (fun _ => copy_spec y hfk _) <| ?_
  rintro _ _ ⟨pi, pj, rfl, rfl⟩
  refine S.s <| D.st 2 ty27 rfl rfl rfl rfl rfl rfl rfl rfl fun _ => Q.as rfl <| Q.nt <| UW.ret <| ?_
  exact retR [_, _] (fun hd => res_two rfl (res1_cell (k := 2) hd rfl rfl st27 sz27) (res1_tmp rfl)) (.cons_cons _ (.cons_cons _ (List.nil_sublist _))) fun hd => ⟨_, hd, rfl, _, _, rfl, rfl⟩
theorem objV_small {v : V} (h : Small v) : (objV v).ks.length ≤ 100 := by
  unfold objV; split
  · exact h.1
  · simp [vks]
theorem valueCopy_spec (c : List Int) (hc : Bys c) (b : Int) (hb0 : 0 ≤ b) (hb1 : b < 256) (H : Hp) : ACall Try.prog 8 [u8s c, .v (.int .u8 b)] H (IsR H (.v (.bool true))) := by
  have hpart : ∀ H, ACall Try.prog 19 [u8s c, .v (.int .u8 b)] H (IsR H (.agg (encV (partV c b)))) := part_spec c hc b hb0 hb1
  have hs := partV_small c b hb0
  have hgd := partV_good c b hb0
  generalize partV c b = v at *
  have hsm := same_self v hs.fits
  have hvl := encVs_len v.vs
  have hvb := hs.2.1
  cases hp : pl v ⟨#[97]⟩ with
  | none =>
    have hg : getV v ⟨#[97]⟩ = (zeroV, false) := by unfold getV; rw [hp]
    refine UCall (n := 72) (H0 := H) (objs := []) Try.func8 (by kernel_rfl) rfl (by rw [Try.ntmps8]; rfl) .nil <| ?_
    refine Q.rg <| Q.as rfl <| Q.nt <| Q.rg <| Q.mv rfl <| Q.mv rfl <| S.qu (Z.call rfl rfl (fun _ => hpart _)) <| S.dd <| D.al z27 rfl rfl rfl fun p5 => S.s <| D.stw 0 ty27 rfl rfl rfl rfl (by exact encV_cell _) (encV_len _) rfl rfl fun _ => ?_
    refine Q.nt <| Q.rg <| S.qu (Z.ldw 0 ty27 rfl rfl (encV_len _)) <| S.dd <| D.cn rfl rfl (fun _ => copy_spec v hs.fits _) <| ?_
    rintro _ _ ⟨pi, pj, rfl, rfl⟩
    refine S.dd <| D.al z27 rfl rfl rfl fun p6 => S.s <| D.st 0 ty27 rfl rfl rfl rfl rfl rfl rfl rfl fun _ => Q.nt <| Q.rg <| S.qu (Z.ldw 3 ty27 rfl rfl (encV_len _)) <| S.qu (Z.eq (u' := .tup [.agg (encV zeroV), .v (.bool false)]) (Z.call rfl rfl (fun _ => get_spec v hs.fits _ _)) (by rw [hg])) <| ?_
    refine Q.mv rfl <| S.qu (Z.ex rfl rfl) <| S.qu (Z.ex rfl rfl) <| S.dd <| D.al z27 rfl rfl rfl fun p7 => S.s <| D.st 0 ty27 rfl rfl rfl rfl rfl rfl rfl rfl fun _ => Q.as rfl <| Q.nt <| Q.rg <| S.qu (Z.ldw 4 ty27 rfl rfl (encV_len _)) <| S.qu (Z.bd [] bt27 rfl rfl rfl rfl rfl rfl) <| S.dd <| D.cn rfl rfl (fun _ => with_own v hs.fits _ zeroV fits_zero _) <| ?_
    (rintro _ _ ⟨qi, qj, rk, rv, rfl, rfl, hk1, hk2, hk3, hk4⟩; refine US.rowsz 1 rfl fun hrz => ?_)
    refine S.dd <| D.al z27 rfl rfl rfl fun p9 => S.s <| D.st 0 ty27 rfl rfl rfl rfl rfl rfl rfl rfl fun _ => Q.nt <| S.sq <| Q.rg <| Q.as rfl <| Q.nt <| UW.block <| ?_
    refine S.loop (fun s : Nat × List (List AV) => [(10, .v (.int .i64 (s.1 : Int))), (0, u8s c), (1, .v (.int .u8 b)), (5, .ptr p5 0), (6, .ptr p6 0), (7, .ptr p7 0), (8, .v (.bool false)), (9, .ptr p9 0)]) (fun s => [(p9, .box 27 [.v (.int .i64 (withV v ⟨#[98]⟩ zeroV).k), .v (.int .i64 (withV v ⟨#[98]⟩ zeroV).n), .v (.string (withV v ⟨#[98]⟩ zeroV).t), .own qi 0 (withV v ⟨#[98]⟩ zeroV).ks.length 1, .own qj 0 (withV v ⟨#[98]⟩ zeroV).vs.length 5]), (qi, .row 9 1 rk), (p7, .box 27 (encV zeroV)), (p6, .box 27 [.v (.int .i64 v.k), .v (.int .i64 v.n), .v (.string v.t), .own pi 0 v.ks.length 1, .own pj 0 v.vs.length 5]), (pj, .row 27 5 s.2), (p5, .box 27 (encV v))]) (fun s => s.1 ≤ v.vs.length ∧ s.2.length = v.vs.length ∧ ∀ cs ∈ s.2, cs.length = 5) (fun s => v.vs.length - s.1) (0, encVs v.vs) ⟨Nat.zero_le _, hvl, encVs_sz _⟩ ⟨rfl, rfl, rfl, rfl, rfl, rfl, rfl, rfl, trivial⟩ (by repeat (first | exact List.Sublist.refl _ | refine .cons_cons _ ?_ | refine .cons _ ?_)) ?_
    rintro ⟨j, rows⟩ ⟨hj, h1, h2⟩
    simp only at hj h1 h2
    simp only
    focus
      refine S.sq <| Q.rg <| Q.mv rfl <| Q.fa f27_4 rfl <| Q.lc 3 ty25 rfl rfl rfl <| S.qu (Z.lno sl25 rfl) <| Q.bi rfl rfl rfl <| Q.nt <| ?_
      refine S.cD rfl (fun hc30 => ?_) (fun hc30 => ?_)
      refine UW.skip <| UQ.then <| S.sq <| UW.block <| S.rg <| Q.fa f27_4 rfl <| Q.lc 3 ty25 rfl rfl rfl <| Q.mv rfl <| S.qu (Z.bd [0] bt27 rfl rfl rfl rfl rfl rfl) <| S.qu (Z.io sl25 rfl rfl (by omega) (by omega)) <| S.s <| D.str 4 ty27 rfl rfl rfl (by omega) rfl rfl rfl rfl (by assumption) fun _ => ?_
      refine US.nil <| UQ.blockN <| UQ.then <| S.rg <| Q.mv rfl <| S.qu (Z.add (r := ((j + 1 : Nat) : Int)) rfl rfl (IntWalk.i64_in _ (by omega))) <| Q.as rfl <| US.nil <| ?_
      refine S.back (_, _) ⟨rfl, rfl, rfl, rfl, rfl, rfl, rfl, rfl, trivial⟩ (.refl _) ?_ (by omega)
      rotate_left
      refine UW.exit <| UQ.pass <| UQ.pass <| UQ.here <| UQ.then <| S.sq <| Q.rg <| Q.as rfl <| Q.nt <| UW.block <| ?_
      rotate_left
    · exact ⟨by simp only; omega, by simp only [List.length_set]; exact h1, fun cs hcs => by rcases List.mem_or_eq_of_mem_set hcs with h | h; exact h2 cs h; rw [h]; rfl⟩
    · refine S.loop (fun s : Nat => [(11, .v (.int .i64 (s : Int))), (0, u8s c), (1, .v (.int .u8 b)), (5, .ptr p5 0), (6, .ptr p6 0), (7, .ptr p7 0), (8, .v (.bool false)), (9, .ptr p9 0)]) (fun s => [(p9, .box 27 [.v (.int .i64 (withV v ⟨#[98]⟩ zeroV).k), .v (.int .i64 (withV v ⟨#[98]⟩ zeroV).n), .v (.string (withV v ⟨#[98]⟩ zeroV).t), .own qi 0 (withV v ⟨#[98]⟩ zeroV).ks.length 1, .own qj 0 (withV v ⟨#[98]⟩ zeroV).vs.length 5]), (qi, .row 9 1 rk), (p7, .box 27 (encV zeroV)), (p5, .box 27 (encV v))]) (fun s => s = 0) (fun s => s) 0 rfl ⟨rfl, rfl, rfl, rfl, rfl, rfl, rfl, rfl, trivial⟩ (by repeat (first | exact List.Sublist.refl _ | refine .cons_cons _ ?_ | refine .cons _ ?_)) ?_
      rintro s rfl
      refine S.sq <| Q.rg <| Q.mv rfl <| Q.fa f27_4 rfl <| Q.lc 2 ty25 rfl rfl rfl <| S.qu (Z.lns sl25 rfl) <| Q.bi rfl rfl rfl <| Q.mv rfl <| ?_
      refine S.tD 43 (fun hc43 => ?_) (fun hc43 => ?_)
      contradiction
      refine Q.of <| Q.pk rfl rfl <| Q.nt <| S.cF rfl rfl <| UW.exit <| UQ.pass <| UQ.pass <| UQ.here <| UQ.then <| S.sq <| Q.rg <| Q.as rfl <| Q.nt <| UW.block <| ?_
      refine S.loop (fun s : Nat × List (List AV) => [(12, .v (.int .i64 (s.1 : Int))), (0, u8s c), (1, .v (.int .u8 b)), (5, .ptr p5 0), (6, .ptr p6 0), (7, .ptr p7 0), (8, .v (.bool false)), (9, .ptr p9 0)]) (fun s => [(p9, .box 27 [.v (.int .i64 (withV v ⟨#[98]⟩ zeroV).k), .v (.int .i64 (withV v ⟨#[98]⟩ zeroV).n), .v (.string (withV v ⟨#[98]⟩ zeroV).t), .own qi 0 (withV v ⟨#[98]⟩ zeroV).ks.length 1, .own qj 0 (withV v ⟨#[98]⟩ zeroV).vs.length 5]), (qi, .row 9 1 s.2), (p5, .box 27 (encV v))]) (fun s => s.1 ≤ (withV v ⟨#[98]⟩ zeroV).ks.length ∧ s.2.length = rk.length ∧ ∀ cs ∈ s.2, cs.length = 1) (fun s => (withV v ⟨#[98]⟩ zeroV).ks.length - s.1) (0, rk) ⟨Nat.zero_le _, rfl, hrz⟩ ⟨rfl, rfl, rfl, rfl, rfl, rfl, rfl, rfl, trivial⟩ (by repeat (first | exact List.Sublist.refl _ | refine .cons_cons _ ?_ | refine .cons _ ?_)) ?_
      rintro ⟨j, rows⟩ ⟨hj, h1, h2⟩
      simp only at hj h1 h2
      simp only
      have hwk := (withV_lens v ⟨#[98]⟩ zeroV).1
      have hks := objV_small hs
      focus
        refine S.sq <| Q.rg <| Q.mv rfl <| Q.fa f27_3 rfl <| Q.lc 0 ty24 rfl rfl rfl <| S.qu (Z.lno sl24 rfl) <| Q.bi rfl rfl rfl <| Q.nt <| ?_
        refine S.cD rfl (fun hc57 => ?_) (fun hc57 => ?_)
        refine UW.skip <| UQ.then <| S.sq <| UW.block <| S.rg <| Q.fa f27_3 rfl <| Q.lc 0 ty24 rfl rfl rfl <| Q.mv rfl <| S.qu (Z.io sl24 rfl rfl (by omega) (by omega)) <| S.s <| D.str 1 ty9 rfl rfl rfl (by omega) rfl rfl rfl rfl (by assumption) fun _ => ?_
        refine US.nil <| UQ.blockN <| UQ.then <| S.rg <| Q.mv rfl <| S.qu (Z.add (r := ((j + 1 : Nat) : Int)) rfl rfl (IntWalk.i64_in _ (by omega))) <| Q.as rfl <| US.nil <| ?_
        refine S.back (_, _) ⟨rfl, rfl, rfl, rfl, rfl, rfl, rfl, rfl, trivial⟩ (.refl _) ?_ (by omega)
        rotate_left
        refine UW.exit <| UQ.pass <| UQ.pass <| UQ.here <| UQ.then <| S.sq <| ?_
        refine' UW.draw' (by kernel_rfl) [0, 1, 3, 3, 3, 27, 63, 127, 255] [some 64, some 65, some 66, some 67, some 68, some 69, some 70, some 71, some 4] [some (64, _), some (65, _), some (66, _), some (67, _), some (68, _), some (69, _), some (70, _), some (71, _), some (4, _)] [] [2] rfl (by decide) (by decide) (QAll.free (by decide) rfl rfl ?q4x0_0 (QAll.free (by decide) rfl rfl ?q4x0_1 (QAll.held (by decide) rfl rfl ?q4x0_2 (QAll.free (by decide) rfl rfl ?q4x0_3 (QAll.free (by decide) rfl rfl ?q4x0_4 (QAll.free (by decide) rfl rfl ?q4x0_5 (QAll.free (by decide) rfl rfl ?q4x0_6 (QAll.free (by decide) rfl rfl ?q4x0_7 (QAll.free (by decide) rfl rfl ?q4x0_8 QAll.nil))))))))) ?q4x0_k
        case q4x0_0 => exact fun _ => Z.call rfl rfl (fun _ => known_spec _)
        case q4x0_1 => exact fun _ => Z.mv rfl
        case q4x0_2 => exact Z.on (Z.ldw 2 ty27 rfl rfl (encV_len _))
        case q4x0_3 => exact fun _ => Z.on (Z.mv rfl)
        case q4x0_4 => exact fun _ => Z.on (Z.mv rfl)
        case q4x0_5 => exact fun _ => Z.on (Z.call rfl rfl (fun _ => hpart _))
        case q4x0_6 => exact fun _ => Z.on (Z.eq (u' := .v (.bool true)) (Z.call rfl rfl (fun _ => same_spec v hs.fits v _)) (by rw [hsm]))
        case q4x0_7 => exact fun _ => Z.pick rfl rfl
        case q4x0_8 => exact fun _ => Z.as rfl
        refine CH.nil <| ?_
        simp only [app, finL]
        refine UQ.then <| UW.ret <| S.rtR (fun _ => res_tmp rfl rfl) <| ?_
        rfl
      exact ⟨by simp only; omega, by simp only [List.length_set]; exact h1, fun cs hcs => by rcases List.mem_or_eq_of_mem_set hcs with h | h; exact h2 cs h; rw [h]; rfl⟩
  | some i =>
    have hfy := (hs.2.2 _ (getD_mem (z := zeroV) (pl_lt hp).1)).vsl
    refine UCall (n := 72) (H0 := H) (objs := []) Try.func8 (by kernel_rfl) rfl (by rw [Try.ntmps8]; rfl) .nil <| ?_
    refine Q.rg <| Q.as rfl <| Q.nt <| Q.rg <| Q.mv rfl <| Q.mv rfl <| S.qu (Z.call rfl rfl (fun _ => hpart _)) <| S.dd <| D.al z27 rfl rfl rfl fun p5 => S.s <| D.stw 0 ty27 rfl rfl rfl rfl (by exact encV_cell _) (encV_len _) rfl rfl fun _ => ?_
    refine Q.nt <| Q.rg <| S.qu (Z.ldw 0 ty27 rfl rfl (encV_len _)) <| S.dd <| D.cn rfl rfl (fun _ => copy_spec v hs.fits _) <| ?_
    rintro _ _ ⟨pi, pj, rfl, rfl⟩
    refine S.dd <| D.al z27 rfl rfl rfl fun p6 => S.s <| D.st 0 ty27 rfl rfl rfl rfl rfl rfl rfl rfl fun _ => Q.nt <| Q.rg <| S.qu (Z.ldw 3 ty27 rfl rfl (encV_len _)) <| S.dd <| D.cn rfl rfl (fun _ => get_own v hs.fits _ i hp _) <| ?_
    rintro _ _ ⟨gi, gj, rfl, rfl⟩
    refine Q.mv rfl <| S.qu (Z.ex rfl rfl) <| S.qu (Z.ex rfl rfl) <| S.dd <| D.al z27 rfl rfl rfl fun p7 => S.s <| D.st 0 ty27 rfl rfl rfl rfl rfl rfl rfl rfl fun _ => Q.as rfl <| Q.nt <| Q.rg <| S.qu (Z.ldw 6 ty27 rfl rfl (encV_len _)) <| S.qu (Z.bd [] bt27 rfl rfl rfl rfl rfl rfl) <| S.dd <| D.cn rfl rfl (fun _ => with_own v hs.fits _ zeroV fits_zero _) <| ?_
    (rintro _ _ ⟨qi, qj, rk, rv, rfl, rfl, hk1, hk2, hk3, hk4⟩; refine US.rowsz 1 rfl fun hrz => ?_)
    refine S.dd <| D.al z27 rfl rfl rfl fun p9 => S.s <| D.st 0 ty27 rfl rfl rfl rfl rfl rfl rfl rfl fun _ => Q.nt <| S.sq <| Q.rg <| Q.as rfl <| Q.nt <| UW.block <| ?_
    refine S.loop (fun s : Nat × List (List AV) => [(10, .v (.int .i64 (s.1 : Int))), (0, u8s c), (1, .v (.int .u8 b)), (5, .ptr p5 0), (6, .ptr p6 0), (7, .ptr p7 0), (8, .v (.bool true)), (9, .ptr p9 0)]) (fun s => [(p9, .box 27 [.v (.int .i64 (withV v ⟨#[98]⟩ zeroV).k), .v (.int .i64 (withV v ⟨#[98]⟩ zeroV).n), .v (.string (withV v ⟨#[98]⟩ zeroV).t), .own qi 0 (withV v ⟨#[98]⟩ zeroV).ks.length 1, .own qj 0 (withV v ⟨#[98]⟩ zeroV).vs.length 5]), (qi, .row 9 1 rk), (p7, .box 27 [.v (.int .i64 (v.vs.getD i zeroV).k), .v (.int .i64 (v.vs.getD i zeroV).n), .v (.string (v.vs.getD i zeroV).t), .own gi 0 (v.vs.getD i zeroV).ks.length 1, .own gj 0 (v.vs.getD i zeroV).vs.length 5]), (gj, .row 27 5 (encVs (v.vs.getD i zeroV).vs)), (p6, .box 27 [.v (.int .i64 v.k), .v (.int .i64 v.n), .v (.string v.t), .own pi 0 v.ks.length 1, .own pj 0 v.vs.length 5]), (pj, .row 27 5 s.2), (p5, .box 27 (encV v))]) (fun s => s.1 ≤ v.vs.length ∧ s.2.length = v.vs.length ∧ ∀ cs ∈ s.2, cs.length = 5) (fun s => v.vs.length - s.1) (0, encVs v.vs) ⟨Nat.zero_le _, hvl, encVs_sz _⟩ ⟨rfl, rfl, rfl, rfl, rfl, rfl, rfl, rfl, trivial⟩ (by repeat (first | exact List.Sublist.refl _ | refine .cons_cons _ ?_ | refine .cons _ ?_)) ?_
    rintro ⟨j, rows⟩ ⟨hj, h1, h2⟩
    simp only at hj h1 h2
    simp only
    focus
      refine S.sq <| Q.rg <| Q.mv rfl <| Q.fa f27_4 rfl <| Q.lc 4 ty25 rfl rfl rfl <| S.qu (Z.lno sl25 rfl) <| Q.bi rfl rfl rfl <| Q.nt <| ?_
      refine S.cD rfl (fun hc30 => ?_) (fun hc30 => ?_)
      refine UW.skip <| UQ.then <| S.sq <| UW.block <| S.rg <| Q.fa f27_4 rfl <| Q.lc 4 ty25 rfl rfl rfl <| Q.mv rfl <| S.qu (Z.bd [0] bt27 rfl rfl rfl rfl rfl rfl) <| S.qu (Z.io sl25 rfl rfl (by omega) (by omega)) <| S.s <| D.str 5 ty27 rfl rfl rfl (by omega) rfl rfl rfl rfl (by assumption) fun _ => ?_
      refine US.nil <| UQ.blockN <| UQ.then <| S.rg <| Q.mv rfl <| S.qu (Z.add (r := ((j + 1 : Nat) : Int)) rfl rfl (IntWalk.i64_in _ (by omega))) <| Q.as rfl <| US.nil <| ?_
      refine S.back (_, _) ⟨rfl, rfl, rfl, rfl, rfl, rfl, rfl, rfl, trivial⟩ (.refl _) ?_ (by omega)
      rotate_left
      refine UW.exit <| UQ.pass <| UQ.pass <| UQ.here <| UQ.then <| S.sq <| Q.rg <| Q.as rfl <| Q.nt <| UW.block <| ?_
      rotate_left
    · exact ⟨by simp only; omega, by simp only [List.length_set]; exact h1, fun cs hcs => by rcases List.mem_or_eq_of_mem_set hcs with h | h; exact h2 cs h; rw [h]; rfl⟩
    · refine S.loop (fun s : Nat × List (List AV) => [(11, .v (.int .i64 (s.1 : Int))), (0, u8s c), (1, .v (.int .u8 b)), (5, .ptr p5 0), (6, .ptr p6 0), (7, .ptr p7 0), (8, .v (.bool true)), (9, .ptr p9 0)]) (fun s => [(p9, .box 27 [.v (.int .i64 (withV v ⟨#[98]⟩ zeroV).k), .v (.int .i64 (withV v ⟨#[98]⟩ zeroV).n), .v (.string (withV v ⟨#[98]⟩ zeroV).t), .own qi 0 (withV v ⟨#[98]⟩ zeroV).ks.length 1, .own qj 0 (withV v ⟨#[98]⟩ zeroV).vs.length 5]), (qi, .row 9 1 rk), (p7, .box 27 [.v (.int .i64 (v.vs.getD i zeroV).k), .v (.int .i64 (v.vs.getD i zeroV).n), .v (.string (v.vs.getD i zeroV).t), .own gi 0 (v.vs.getD i zeroV).ks.length 1, .own gj 0 (v.vs.getD i zeroV).vs.length 5]), (gj, .row 27 5 s.2), (p5, .box 27 (encV v))]) (fun s => s.1 ≤ (v.vs.getD i zeroV).vs.length ∧ s.2.length = (v.vs.getD i zeroV).vs.length ∧ ∀ cs ∈ s.2, cs.length = 5) (fun s => (v.vs.getD i zeroV).vs.length - s.1) (0, encVs (v.vs.getD i zeroV).vs) ⟨Nat.zero_le _, encVs_len _, encVs_sz _⟩ ⟨rfl, rfl, rfl, rfl, rfl, rfl, rfl, rfl, trivial⟩ (by repeat (first | exact List.Sublist.refl _ | refine .cons_cons _ ?_ | refine .cons _ ?_)) ?_
      rintro ⟨j, rows⟩ ⟨hj, h1, h2⟩
      simp only at hj h1 h2
      simp only
      focus
        refine S.sq <| Q.rg <| Q.mv rfl <| Q.fa f27_4 rfl <| Q.lc 2 ty25 rfl rfl rfl <| S.qu (Z.lno sl25 rfl) <| Q.bi rfl rfl rfl <| Q.mv rfl <| ?_
        refine S.tD 43 (fun hc43 => ?_) (fun hc43 => ?_)
        refine Q.on (Z.mv rfl) <| Q.pk rfl rfl <| Q.nt <| S.cT rfl rfl <| UW.skip <| UQ.then <| S.sq <| UW.block <| S.rg <| Q.fa f27_4 rfl <| Q.lc 2 ty25 rfl rfl rfl <| Q.mv rfl <| S.qu (Z.bd [0] bt27 rfl rfl rfl rfl rfl rfl) <| S.qu (Z.io sl25 rfl rfl (by omega) (by omega)) <| S.s <| D.str 3 ty27 rfl rfl rfl (by omega) rfl rfl rfl rfl (by assumption) fun _ => ?_
        refine US.nil <| UQ.blockN <| UQ.then <| S.rg <| Q.mv rfl <| S.qu (Z.add (r := ((j + 1 : Nat) : Int)) rfl rfl (IntWalk.i64_in _ (by omega))) <| Q.as rfl <| US.nil <| ?_
        refine S.back (_, _) ⟨rfl, rfl, rfl, rfl, rfl, rfl, rfl, rfl, trivial⟩ (.refl _) ?_ (by omega)
        rotate_left
        refine Q.of <| Q.pk rfl rfl <| Q.nt <| S.cF rfl rfl <| UW.exit <| UQ.pass <| UQ.pass <| UQ.here <| UQ.then <| S.sq <| Q.rg <| Q.as rfl <| Q.nt <| UW.block <| ?_
        rotate_left
      · exact ⟨by simp only; omega, by simp only [List.length_set]; exact h1, fun cs hcs => by rcases List.mem_or_eq_of_mem_set hcs with h | h; exact h2 cs h; rw [h]; rfl⟩
      · refine S.loop (fun s : Nat × List (List AV) => [(12, .v (.int .i64 (s.1 : Int))), (0, u8s c), (1, .v (.int .u8 b)), (5, .ptr p5 0), (6, .ptr p6 0), (7, .ptr p7 0), (8, .v (.bool true)), (9, .ptr p9 0)]) (fun s => [(p9, .box 27 [.v (.int .i64 (withV v ⟨#[98]⟩ zeroV).k), .v (.int .i64 (withV v ⟨#[98]⟩ zeroV).n), .v (.string (withV v ⟨#[98]⟩ zeroV).t), .own qi 0 (withV v ⟨#[98]⟩ zeroV).ks.length 1, .own qj 0 (withV v ⟨#[98]⟩ zeroV).vs.length 5]), (qi, .row 9 1 s.2), (p5, .box 27 (encV v))]) (fun s => s.1 ≤ (withV v ⟨#[98]⟩ zeroV).ks.length ∧ s.2.length = rk.length ∧ ∀ cs ∈ s.2, cs.length = 1) (fun s => (withV v ⟨#[98]⟩ zeroV).ks.length - s.1) (0, rk) ⟨Nat.zero_le _, rfl, hrz⟩ ⟨rfl, rfl, rfl, rfl, rfl, rfl, rfl, rfl, trivial⟩ (by repeat (first | exact List.Sublist.refl _ | refine .cons_cons _ ?_ | refine .cons _ ?_)) ?_
        rintro ⟨j, rows⟩ ⟨hj, h1, h2⟩
        simp only at hj h1 h2
        simp only
        have hwk := (withV_lens v ⟨#[98]⟩ zeroV).1
        have hks := objV_small hs
        focus
          refine S.sq <| Q.rg <| Q.mv rfl <| Q.fa f27_3 rfl <| Q.lc 0 ty24 rfl rfl rfl <| S.qu (Z.lno sl24 rfl) <| Q.bi rfl rfl rfl <| Q.nt <| ?_
          refine S.cD rfl (fun hc57 => ?_) (fun hc57 => ?_)
          refine UW.skip <| UQ.then <| S.sq <| UW.block <| S.rg <| Q.fa f27_3 rfl <| Q.lc 0 ty24 rfl rfl rfl <| Q.mv rfl <| S.qu (Z.io sl24 rfl rfl (by omega) (by omega)) <| S.s <| D.str 1 ty9 rfl rfl rfl (by omega) rfl rfl rfl rfl (by assumption) fun _ => ?_
          refine US.nil <| UQ.blockN <| UQ.then <| S.rg <| Q.mv rfl <| S.qu (Z.add (r := ((j + 1 : Nat) : Int)) rfl rfl (IntWalk.i64_in _ (by omega))) <| Q.as rfl <| US.nil <| ?_
          refine S.back (_, _) ⟨rfl, rfl, rfl, rfl, rfl, rfl, rfl, rfl, trivial⟩ (.refl _) ?_ (by omega)
          rotate_left
          refine UW.exit <| UQ.pass <| UQ.pass <| UQ.here <| UQ.then <| S.sq <| ?_
          refine' UW.draw' (by kernel_rfl) [0, 1, 3, 3, 3, 27, 63, 127, 255] [some 64, some 65, some 66, some 67, some 68, some 69, some 70, some 71, some 4] [some (64, _), some (65, _), some (66, _), some (67, _), some (68, _), some (69, _), some (70, _), some (71, _), some (4, _)] [] [2] rfl (by decide) (by decide) (QAll.free (by decide) rfl rfl ?q8x0_0 (QAll.free (by decide) rfl rfl ?q8x0_1 (QAll.held (by decide) rfl rfl ?q8x0_2 (QAll.free (by decide) rfl rfl ?q8x0_3 (QAll.free (by decide) rfl rfl ?q8x0_4 (QAll.free (by decide) rfl rfl ?q8x0_5 (QAll.free (by decide) rfl rfl ?q8x0_6 (QAll.free (by decide) rfl rfl ?q8x0_7 (QAll.free (by decide) rfl rfl ?q8x0_8 QAll.nil))))))))) ?q8x0_k
          case q8x0_0 => exact fun _ => Z.call rfl rfl (fun _ => known_spec _)
          case q8x0_1 => exact fun _ => Z.mv rfl
          case q8x0_2 => exact Z.on (Z.ldw 2 ty27 rfl rfl (encV_len _))
          case q8x0_3 => exact fun _ => Z.on (Z.mv rfl)
          case q8x0_4 => exact fun _ => Z.on (Z.mv rfl)
          case q8x0_5 => exact fun _ => Z.on (Z.call rfl rfl (fun _ => hpart _))
          case q8x0_6 => exact fun _ => Z.on (Z.eq (u' := .v (.bool true)) (Z.call rfl rfl (fun _ => same_spec v hs.fits v _)) (by rw [hsm]))
          case q8x0_7 => exact fun _ => Z.pick rfl rfl
          case q8x0_8 => exact fun _ => Z.as rfl
          refine CH.nil <| ?_
          simp only [app, finL]
          refine UQ.then <| UW.ret <| S.rtR (fun _ => res_tmp rfl rfl) <| ?_
          rfl
        exact ⟨by simp only; omega, by simp only [List.length_set]; exact h1, fun cs hcs => by rcases List.mem_or_eq_of_mem_set hcs with h | h; exact h2 cs h; rw [h]; rfl⟩
end Go.Proofs.Ytopaddebalfoeaa
