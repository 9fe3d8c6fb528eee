/- The law ValueSpoilt: what it answers. -/
import Derived.Test.YtopaddebalfoeaaS4
namespace Go.Proofs.Ytopaddebalfoeaa
open Go Go.RowKit Go.Eng
set_option linter.unusedSimpArgs false
set_option linter.unusedVariables false
set_option maxRecDepth 100000
set_option maxHeartbeats 4000000
/-- A value of short lists. -/
def Small (x : V) : Prop := x.ks.length ≤ 100 ∧ x.vs.length ≤ 100 ∧ ∀ v ∈ x.vs, Fits v
theorem Small.fits {x : V} (h : Small x) : Fits x := Fits.of (by have := h.1; omega) (by have := h.2.1; omega) h.2.2
theorem small_leaf (k n : Int) (t : ByteArray) : Small (.mk k n t [] []) := ⟨by simp [vks, vvs], by simp [vks, vvs], by simp [vks, vvs]⟩
theorem swV_small (b0 b1 : Int) (t : ByteArray) (l : List V) (h : ∀ x ∈ l, Fits x) : Small (swV b0 b1 t l).2 := by
  have hk : ∀ x ∈ kidsV b1 l, Fits x := fun x hx => h x (List.mem_of_mem_drop hx)
  have h4 : (b1.tmod 4).toNat < 4 := by have := Int.tmod_lt_of_pos b1 (by decide : (0 : Int) < 4); omega
  have hkl : (kidsV b1 l).length ≤ 4 := by unfold kidsV takeK; rw [List.length_drop]; omega
  unfold swV
  repeat' split
  · exact small_leaf _ _ _
  · exact small_leaf _ _ _
  · exact small_leaf _ _ _
  · exact small_leaf _ _ _
  · exact small_leaf _ _ _
  · exact ⟨by simp [vks, vvs], by simp only [vvs]; omega, hk⟩
  · obtain ⟨_, h1, h2, _, h5⟩ := objF_ok b1 (kidsV b1 l) hk (kidsV b1 l).length
    show Small (objF b1 (kidsV b1 l) (kidsV b1 l).length)
    exact ⟨by omega, by omega, h5⟩
  · exact small_leaf _ _ _
theorem valL_small (c : List Int) : ∀ n, n ≤ 100 → ∀ x ∈ valL c n, Small x
  | 0, _ => by intro x h; cases h
  | n + 1, hn => by
    obtain ⟨h1, h2⟩ := valL_ok c n (by omega)
    intro x hx
    rcases List.mem_append.1 hx with h | h
    · exact valL_small c n (by omega) x (List.mem_of_mem_take h)
    · rw [List.mem_singleton.1 h]; exact swV_small _ _ _ _ h2
theorem partV_small (c : List Int) (b : Int) (hb : 0 ≤ b) : Small (partV c b) := by
  rcases partV_mem c b hb with h | ⟨h, _⟩
  · rw [h]; exact small_leaf _ _ _
  · exact valL_small c _ (by omega) _ h
theorem withV_has (x : V) (key : ByteArray) (y : V) : y ∈ (withV x key y).vs := by
  unfold withV
  split
  · rename_i i h
    have h1 := pl_lt h
    rw [vvs]
    exact List.mem_of_getElem? (i := i) (by rw [List.getElem?_set, if_pos rfl, if_pos]; simp only [cutV, vvs, List.length_take]; omega)
  · rw [vvs]; unfold insAt; simp
/-- A value that is not right, of short lists. -/
def Bad (x : V) : Prop := rightV x = false ∧ x.ks.length ≤ 200 ∧ x.vs.length ≤ 200 ∧ ∀ v ∈ x.vs, Fits v
theorem Bad.fits {x : V} (h : Bad x) : Fits x := Fits.of (by have := h.2.1; omega) (by have := h.2.2.1; omega) h.2.2.2
theorem bad_vals {k n : Int} {t : ByteArray} {ks : List ByteArray} {vs : List V} {x : V} (hx : x ∈ vs) (h : rightV x = false) : rightV (.mk k n t ks vs) = false := by
  obtain ⟨j, hj, rfl⟩ := List.getElem_of_mem hx
  exact right_no5 (rightsV_at hj h)
theorem bad_with {v x : V} (key : ByteArray) (hv : Small v) (h : Bad x) : Bad (withV v key x) := by
  obtain ⟨w1, w2, _⟩ := withV_lens v key x
  have ho : (objV v).ks.length ≤ 100 ∧ (objV v).vs.length ≤ 100 ∧ ∀ y ∈ (objV v).vs, Fits y := by
    unfold objV; split
    · exact hv
    · exact ⟨by simp [vks, vvs], by simp [vks, vvs], by simp [vks, vvs]⟩
  refine ⟨?_, by omega, by omega, fun y hy => ?_⟩
  · have hm := withV_has v key x
    obtain ⟨k, n, t, ks, vs⟩ : ∃ z : V, z = withV v key x := ⟨_, rfl⟩
    revert hm
    cases hz : withV v key x with
    | mk k n t ks vs => exact fun hm => bad_vals hm h.1
  · rcases withV_vals hy with h1 | h1
    · exact ho.2.2 y h1
    · rw [h1]; exact h.fits
theorem bad_arr {v x : V} (hv : Small v) (h : Bad x) : Bad (.mk 4 0 ⟨#[]⟩ [] [v, x]) :=
  ⟨bad_vals (by simp) h.1, by simp [vks, vvs], by simp [vks, vvs], fun y hy => by
    rcases List.mem_cons.1 hy with h1 | h1
    · rw [h1]; exact hv.fits
    · rw [List.mem_singleton.1 h1]; exact h.fits⟩
theorem bad0 : Bad (.mk 7 0 ⟨#[]⟩ [] []) := ⟨by kernel_rfl, by simp [vks, vvs], by simp [vks, vvs], by simp [vks, vvs]⟩
theorem bad1 : Bad (.mk 3 0 ⟨#[255]⟩ [] []) := ⟨by kernel_rfl, by simp [vks, vvs], by simp [vks, vvs], by simp [vks, vvs]⟩
theorem bad2 : Bad (.mk 5 0 ⟨#[]⟩ [⟨#[98]⟩, ⟨#[97]⟩] [zeroV, zeroV]) := ⟨by kernel_rfl, by simp [vks, vvs], by simp [vks, vvs], by simp [vks, vvs]; exact fits_zero⟩
theorem bad3 : Bad (.mk 2 0 ⟨#[49]⟩ [] []) := ⟨by kernel_rfl, by simp [vks, vvs], by simp [vks, vvs], by simp [vks, vvs]⟩
theorem bad4 : Bad (.mk 5 0 ⟨#[]⟩ [⟨#[97]⟩, ⟨#[97]⟩] [zeroV, zeroV]) := ⟨by kernel_rfl, by simp [vks, vvs], by simp [vks, vvs], by simp [vks, vvs]; exact fits_zero⟩
theorem lit2 {a b : V} : ∀ cs ∈ [encV a, encV b], cs.all cellAV = true ∧ cs.length = 5 := by
  intro cs h
  rcases List.mem_cons.1 h with h | h
  · rw [h]; exact ⟨encV_cell _, encV_len _⟩
  · rw [List.mem_singleton.1 h]; exact ⟨encV_cell _, encV_len _⟩
theorem valueSpoilt_spec (c : List Int) (hc : Bys c) (b : Int) (hb0 : 0 ≤ b) (hb1 : b < 256) (w : Int) (hw0 : 0 ≤ w) (hw1 : w < 256) (H : Hp) : ACall Try.prog 6 [u8s c, .v (.int .u8 b), .v (.int .u8 w)] H (IsR H (.v (.bool true))) := by
  have hpart : ∀ H, ACall Try.prog 19 [u8s c, .v (.int .u8 b)] H (IsR H (.agg (encV (partV c b)))) := part_spec c hc b hb0 hb1
  have hg := partV_good c b hb0
  have hr := partV_right c b hb0
  have hs := partV_small c b hb0
  generalize partV c b = v at *
  have hq : w.tdiv 5 = w / 5 := Int.tdiv_eq_ediv_of_nonneg hw0
  have hq0 := Int.tmod_nonneg 9 (by omega : 0 ≤ w.tdiv 5)
  have hq1 := Int.tmod_lt_of_pos (w.tdiv 5) (by decide : (0 : Int) < 9)
  refine UCall (n := 70) (H0 := H) (objs := []) Try.func6 (by kernel_rfl) rfl (by rw [Try.ntmps6]; rfl) .nil <| ?_
  refine Q.rg <| Q.as rfl <| Q.nt <| Q.rg <| Q.mv rfl <| Q.mv rfl <| S.qu (Z.call rfl rfl (fun _ => hpart _)) <| S.dd <| D.al z27 rfl rfl rfl fun p7 => S.s <| D.stw 0 ty27 rfl rfl rfl rfl (by exact encV_cell _) (encV_len _) rfl rfl fun _ => ?_
  refine Q.nt <| Q.rg <| S.qu (Z.bd [0] bt27 rfl rfl rfl rfl rfl rfl) <| S.dd <| D.al z27 rfl rfl rfl fun p8 => S.s <| D.st 0 ty27 rfl rfl rfl rfl rfl rfl rfl rfl fun _ => Q.nt <| ?_
  refine S.cutA (fun x : V => [(1, .v (.int .u8 b)), (2, .v (.int .u8 w)), (7, .ptr p7 0), (8, .ptr p8 0)]) (fun x => [(p8, .box 27 (encV x)), (p7, .box 27 (encV v))]) (fun x => Bad x) ?_ (fun x0 hx0 => ?_)
  refine Q.rg <| Q.mv rfl <| Q.bi rfl rfl rfl <| Q.nt <| UW.block <| Q.rg <| Q.bi rfl rfl rfl <| Q.as rfl <| Q.nt <| ?_
  refine S.cE rfl (fun hc16 => ?_) (fun hc16 => ?_)
  refine S.rg <| S.qu (Z.bd [0, 2] bt27 rfl rfl rfl rfl rfl rfl) <| S.s <| D.st 0 ty27 rfl rfl rfl rfl rfl rfl rfl rfl fun _ => US.nil <| UQ.blockN <| ?_
  refine S.finA (.mk 3 0 ⟨#[255]⟩ [] []) ⟨rfl, rfl, rfl, rfl, trivial⟩ (.refl _) bad1
  refine Q.rg <| Q.bi rfl rfl rfl <| Q.as rfl <| Q.nt <| ?_
  refine S.cE rfl (fun hc19 => ?_) (fun hc19 => ?_)
  refine S.rg <| S.qu (Z.bl row24 rfl rfl (lit_ok rfl)) <| S.qu (Z.bd [] bt27 rfl rfl rfl rfl rfl rfl) <| S.qu (Z.bd [] bt27 rfl rfl rfl rfl rfl rfl) <| S.qu (Z.bl row25 rfl rfl (lit_ok rfl)) <| S.qu (Z.bd [0, 3, 4] bt27 rfl rfl rfl rfl rfl rfl) <| S.s <| D.st 0 ty27 rfl rfl rfl rfl rfl rfl rfl rfl fun _ => US.nil <| UQ.blockN <| ?_
  refine S.finA (.mk 5 0 ⟨#[]⟩ [⟨#[98]⟩, ⟨#[97]⟩] [zeroV, zeroV]) ⟨rfl, rfl, rfl, rfl, trivial⟩ (.refl _) bad2
  refine Q.rg <| Q.bi rfl rfl rfl <| Q.as rfl <| Q.nt <| ?_
  refine S.cE rfl (fun hc26 => ?_) (fun hc26 => ?_)
  refine S.rg <| S.qu (Z.bd [0, 2] bt27 rfl rfl rfl rfl rfl rfl) <| S.s <| D.st 0 ty27 rfl rfl rfl rfl rfl rfl rfl rfl fun _ => US.nil <| UQ.blockN <| ?_
  refine S.finA (.mk 2 0 ⟨#[49]⟩ [] []) ⟨rfl, rfl, rfl, rfl, trivial⟩ (.refl _) bad3
  refine Q.rg <| Q.bi rfl rfl rfl <| Q.as rfl <| Q.nt <| ?_
  refine S.cE rfl (fun hc29 => ?_) (fun hc29 => ?_)
  refine S.rg <| S.qu (Z.bl row24 rfl rfl (lit_ok rfl)) <| S.qu (Z.bd [] bt27 rfl rfl rfl rfl rfl rfl) <| S.qu (Z.bd [] bt27 rfl rfl rfl rfl rfl rfl) <| S.qu (Z.bl row25 rfl rfl (lit_ok rfl)) <| S.qu (Z.bd [0, 3, 4] bt27 rfl rfl rfl rfl rfl rfl) <| S.s <| D.st 0 ty27 rfl rfl rfl rfl rfl rfl rfl rfl fun _ => US.nil <| UQ.blockN <| ?_
  refine S.finA (.mk 5 0 ⟨#[]⟩ [⟨#[97]⟩, ⟨#[97]⟩] [zeroV, zeroV]) ⟨rfl, rfl, rfl, rfl, trivial⟩ (.refl _) bad2
  refine UW.skip <| UQ.blockN <| ?_
  refine S.finA (.mk 7 0 ⟨#[]⟩ [] []) ⟨rfl, rfl, rfl, rfl, trivial⟩ (.refl _) bad0
  refine S.sq <| Q.rg <| Q.as rfl <| Q.nt <| UW.block <| S.loop (fun s : Nat × V => [(9, .v (.int .i64 (s.1 : Int))), (1, .v (.int .u8 b)), (2, .v (.int .u8 w)), (7, .ptr p7 0), (8, .ptr p8 0)]) (fun s => [(p8, .box 27 (encV s.2)), (p7, .box 27 (encV v))]) (fun s => s.1 ≤ 8 ∧ Bad s.2) (fun s => 8 - s.1) (0, x0) ⟨by omega, hx0⟩ ⟨rfl, rfl, rfl, rfl, rfl, trivial⟩ (.refl _) <| ?_
  rintro ⟨i, x⟩ ⟨hi, hx⟩
  simp only at hi hx
  simp only
  focus
    refine S.sq <| Q.rg <| Q.mv rfl <| Q.mv rfl <| S.qu (Z.eq (u' := .v (.int .u8 (w.tdiv 5))) (Z.bi rfl rfl rfl) (by congr 2; exact IntWalk.u8_in _ (by omega))) <| ?_
    refine Q.bi rfl rfl rfl <| S.qu (Z.cv Try.underlying3 rfl (IntWalk.i64_in _ (by omega)) (by rw [Try.underlying5]; rfl)) <| ?_
    refine Q.bi rfl rfl rfl <| Q.nt <| ?_
    refine S.cD rfl (fun hc41 => ?_) (fun hc41 => ?_)
    refine UW.skip <| UQ.then <| S.sq <| UW.block <| Q.rg <| Q.mv rfl <| Q.mv rfl <| S.qu (Z.add rfl rfl rfl) <| Q.bi rfl rfl rfl <| Q.bi rfl rfl rfl <| Q.nt <| ?_
    refine S.cE rfl (fun hc48 => ?_) (fun hc48 => ?_)
    refine S.rg <| S.qu (Z.ldw 1 ty27 rfl rfl (encV_len _)) <| S.qu (Z.ldw 0 ty27 rfl rfl (encV_len _)) <| S.qu (Z.call rfl rfl (fun _ => with_spec v hs.fits _ x hx.fits _)) <| S.s <| D.stw 0 ty27 rfl rfl rfl rfl (by exact encV_cell _) (encV_len _) (encV_len _) rfl fun _ => ?_
    refine US.nil <| UQ.blockN <| UQ.then <| S.rg <| Q.mv rfl <| S.qu (Z.add (r := ((i + 1 : Nat) : Int)) rfl rfl (IntWalk.i64_in _ (by omega))) <| Q.as rfl <| US.nil <| ?_
    refine S.back (i + 1, withV v ⟨#[122, 122]⟩ x) ⟨rfl, rfl, rfl, rfl, rfl, trivial⟩ (.refl _) ?_ (by omega)
    rotate_left
    refine S.rg <| S.qu (Z.ldw 1 ty27 rfl rfl (encV_len _)) <| S.qu (Z.ldw 0 ty27 rfl rfl (encV_len _)) <| S.qu (Z.bl row25 rfl rfl lit2) <| S.qu (Z.bd [0, 4] bt27 rfl rfl rfl rfl rfl rfl) <| S.s <| D.stw 0 ty27 rfl rfl rfl rfl rfl rfl (encV_len _) rfl fun _ => US.nil <| UQ.blockN <| UQ.then <| S.rg <| Q.mv rfl <| S.qu (Z.add (r := ((i + 1 : Nat) : Int)) rfl rfl (IntWalk.i64_in _ (by omega))) <| Q.as rfl <| US.nil <| ?_
    refine S.back (i + 1, .mk 4 0 ⟨#[]⟩ [] [v, x]) ⟨rfl, rfl, rfl, rfl, rfl, trivial⟩ (.refl _) ?_ (by omega)
    rotate_left
    refine UW.exit <| UQ.pass <| UQ.pass <| UQ.here <| UQ.then <| Q.rg <| S.qu (Z.call rfl rfl (fun _ => known_spec _)) <| Q.mv rfl <| Q.on (Z.ldw 0 ty27 rfl rfl (encV_len _)) <| Q.on (Z.eq (u' := .v (.bool false)) (Z.call rfl rfl (fun _ => right_spec x hx.fits _)) (by rw [hx.1])) <| ?_
    refine Q.on (Z.not rfl) <| Q.pk rfl rfl <| Q.mv rfl <| S.tT 62 rfl <| Q.on (Z.ldw 1 ty27 rfl rfl (encV_len _)) <| Q.on (Z.eq (u' := .v (.bool true)) (Z.call rfl rfl (fun _ => rightR_spec v hg.1 hg.2.1 _)) (by rw [hr])) <| ?_
    refine Q.pk rfl rfl <| Q.mv rfl <| Q.on (Z.ldw 1 ty27 rfl rfl (encV_len _)) <| Q.on (Z.eq (u' := .v (.bool true)) (Z.call rfl rfl (fun _ => right_spec v hg.1 _)) (by rw [hr])) <| ?_
    refine Q.pk rfl rfl <| Q.as rfl <| Q.nt <| UW.ret <| S.rtR (fun _ => res_tmp rfl rfl) <| ?_
    rfl
  · exact ⟨by simp only; omega, bad_with _ hs hx⟩
  · exact ⟨by simp only; omega, bad_arr hs hx⟩
end Go.Proofs.Ytopaddebalfoeaa
