/- What stays of an event: the document's. · Print: the plain law, and numerals. -/
import Derived.Test.YtgmfgmbgmjbdhaaGreatDoorKx35
import Derived.Test.YtgmfgmbgmjbdhaaGreatDoorKx23
import Derived.Test.YtgmfgmbgmjbdhaaGreatDoorKx21
section
namespace Go.Proofs.YtgmfgmbgmjbdhaaGreatDoor
open Go Go.RowKit Go.Eng
set_option linter.unusedSimpArgs false
set_option linter.unusedVariables false
set_option maxRecDepth 100000
set_option maxHeartbeats 4000000
theorem wo_fits {x : V} (hx : Fits x) (key : ByteArray) : Fits (withoutV x key) := by
  unfold withoutV
  split
  · rename_i i hp
    cases hx with
    | mk k n t ks vs h1 h2 h3 =>
      refine .mk _ _ _ _ _ ?_ ?_ (fun y hy => ?_)
      · unfold cutAt cutV; simp [vks, vvs]; omega
      · unfold cutAt cutV; simp [vks, vvs]; omega
      · unfold cutAt cutV at hy
        rcases List.mem_append.1 hy with h | h
        · exact h3 _ (List.mem_of_mem_take (List.mem_of_mem_take h))
        · exact h3 _ (List.mem_of_mem_take (List.mem_of_mem_drop h))
  · exact hx
def contU (kind : ByteArray) (x : V) : Nat → V
  | 0 => x
  | j + 1 => if keptB kind (x.ks.getD j ⟨#[]⟩) = true then contU kind x j else withoutV (contU kind x j) (x.ks.getD j ⟨#[]⟩)
def contV (kind : ByteArray) (x : V) : V := contU kind x x.ks.length
theorem contU_fits (kind : ByteArray) {x : V} (hx : Fits x) : ∀ j, Fits (contU kind x j)
  | 0 => hx
  | j + 1 => by
    unfold contU
    split
    · exact contU_fits kind hx j
    · exact wo_fits (contU_fits kind hx j) _
theorem content_spec (kind : ByteArray) (x : V) (hx : Fits x) (H : Hp) : ACall Tryz.prog 95 [.v (.string kind), .agg (encV x)] H (IsR H (.agg (encV (contV kind x)))) := by
  have hcu := contU_fits kind hx
  have hcv : contV kind x = contU kind x x.ks.length := rfl
  have hc0 : contU kind x 0 = x := rfl
  have hcs : ∀ j, contU kind x (j + 1) = if keptB kind (x.ks.getD j ⟨#[]⟩) = true then contU kind x j else withoutV (contU kind x j) (x.ks.getD j ⟨#[]⟩) := fun j => rfl
  rw [hcv]
  clear hcv
  generalize contU kind x = cu at *
  obtain ⟨k, n, t, ks, vs⟩ := x
  have hkl : (ks.map encS).length = ks.length := List.length_map ..
  have hb : ks.length ≤ 1000000 := by cases hx with | mk _ _ _ _ _ a b c => exact a
  simp only [V.ks] at hcs ⊢
  refine UCall (n := 31) (H0 := H) (objs := []) Tryz.func95 (by kernel_rfl) rfl (by rw [Tryz.ntmps95]; rfl) .nil <| ?_
  refine Q.rg <| S.dd <| D.box rfl rfl rfl fun p3 => S.dd <| D.al z26 rfl rfl rfl fun p4 => Q.nt <| Q.rg <| S.qu (Z.ldw 1 ty26 rfl rfl rfl) <| S.dd <| D.al z26 rfl rfl rfl fun p5 => S.s <| D.st 0 ty26 rfl rfl rfl rfl rfl rfl rfl rfl fun _ => Q.nt <| S.sq <| Q.rg <| Q.as rfl <| Q.nt <| UW.block <| S.loop (fun j : Nat × V => [(6, .v (.int .i64 (j.1 : Int))), (5, .ptr p5 0), (4, .ptr p4 0), (3, .ptr p3 0), (0, .v (.string kind))]) (fun j => [(p5, .box 26 (encV j.2)), (p4, .box 26 (encV zeroV)), (p3, .box 26 (encV (.mk k n t ks vs)))]) (fun j => j.1 ≤ ks.length ∧ j.2 = cu j.1) (fun j => ks.length - j.1) (0, .mk k n t ks vs) ⟨Nat.zero_le _, hc0.symm⟩ ⟨rfl, rfl, rfl, rfl, rfl, trivial⟩ (.refl _) <| ?_
  rintro ⟨j, y⟩ ⟨hj, hy⟩
  dsimp only at hj hy ⊢
  by_cases hlt : j < ks.length
  · have hgk := strs_get ks j hlt
    have hcj : cu (j + 1) = if keptB kind ks[j] = true then cu j else withoutV (cu j) ks[j] := by
      have h := hcs j
      simpa only [getD_at hlt] using h
    have hkk : ∀ H, ACall Tryz.prog 26 [.v (.string kind), .v (.string ks[j])] H (IsR H (.v (.bool (keptB kind ks[j])))) := fun H => keptR_spec kind ks[j] H
    have hfy : Fits y := hy ▸ hcu j
    rw [← hy] at hcj
    by_cases hkt : keptB kind ks[j] = true
    · rw [if_pos hkt] at hcj
      have hnn : (!keptB kind ks[j]) = false := by rw [hkt]; rfl
      refine S.sq <| Q.rg <| Q.mv rfl <| Q.fa f26_3 rfl <| Q.lc 2 ty23 rfl rfl rfl <| S.qu (Z.lns sl23 rfl) <| Q.bi rfl rfl rfl <| Q.nt <| S.cT rfl (decide_eq_true (by omega)) <| UW.skip <| UQ.then <| S.sq <| UW.block <| Q.rg <| Q.mv rfl <| Q.fa f26_3 rfl <| Q.lc 2 ty23 rfl rfl rfl <| Q.mv rfl <| S.qu (Z.ia sl23 rfl rfl (by omega) (by assumption) (by rfl)) <| ?_
      refine S.qu (Z.lpc ty9 rfl) <| S.qu (Z.call rfl rfl (fun H => hkk H)) <| S.qu (Z.not rfl) <| Q.nt <| S.cF rfl (by assumption) <| ?_
      refine UW.skip <| UQ.blockN <| UQ.then <| S.rg <| Q.mv rfl <| S.qu (Z.add (r := ((j + 1 : Nat) : Int)) rfl rfl (IntWalk.i64_in _ (by omega))) <| Q.as rfl <| US.nil <| ?_
      refine S.back (j + 1, y) ⟨rfl, rfl, rfl, rfl, rfl, trivial⟩ (.refl _) ?_ (by omega)
      exact ⟨hlt, hcj.symm⟩
    · rw [if_neg hkt] at hcj
      have hkf : keptB kind ks[j] = false := by simpa using hkt
      have hnn : (!keptB kind ks[j]) = true := by rw [hkf]; rfl
      have hw : ∀ H, ACall Tryz.prog 92 [.agg (encV y), .v (.string ks[j])] H (IsR H (.agg (encV (withoutV y ks[j])))) := fun H => withoutR_spec y hfy ks[j] H
      generalize withoutV y ks[j] = y1 at *
      refine S.sq <| Q.rg <| Q.mv rfl <| Q.fa f26_3 rfl <| Q.lc 2 ty23 rfl rfl rfl <| S.qu (Z.lns sl23 rfl) <| Q.bi rfl rfl rfl <| Q.nt <| S.cT rfl (decide_eq_true (by omega)) <| UW.skip <| UQ.then <| S.sq <| UW.block <| Q.rg <| Q.mv rfl <| Q.fa f26_3 rfl <| Q.lc 2 ty23 rfl rfl rfl <| Q.mv rfl <| S.qu (Z.ia sl23 rfl rfl (by omega) (by assumption) (by rfl)) <| ?_
      refine S.qu (Z.lpc ty9 rfl) <| S.qu (Z.call rfl rfl (fun H => hkk H)) <| S.qu (Z.not rfl) <| Q.nt <| S.cT rfl (by assumption) <| ?_
      refine' UW.draw' (by kernel_rfl) [0, 0, 2, 0, 14, 30, 63, 127] [some 23, some 24, some 25, some 26, some 27, some 28, some 29, none] [some (23, _), some (24, _), some (25, _), some (26, _), some (27, _), some (28, _), some (29, _), none] [7] [0, 2, 5] rfl (by decide) (by decide) (QAll.held (by decide) rfl rfl ?q2x0_0 (QAll.free (by decide) rfl rfl ?q2x0_1 (QAll.held (by decide) rfl rfl ?q2x0_2 (QAll.free (by decide) rfl rfl ?q2x0_3 (QAll.free (by decide) rfl rfl ?q2x0_4 (QAll.held (by decide) rfl rfl ?q2x0_5 (QAll.free (by decide) rfl rfl ?q2x0_6 (QAll.skip QAll.nil)))))))) ?q2x0_k
      case q2x0_0 => exact Z.ldw 0 ty26 rfl rfl (encV_len _)
      case q2x0_1 => (intro _; exact Z.fa f26_3 rfl)
      case q2x0_2 => exact Z.ldc 2 ty23 rfl rfl rfl
      case q2x0_3 => (intro _; exact Z.mv rfl)
      case q2x0_4 => (intro _; exact Z.ia sl23 rfl rfl (by omega) (by assumption) (by rfl))
      case q2x0_5 => exact Z.lpc ty9 rfl
      case q2x0_6 => (intro _; exact Z.call rfl rfl (fun H => hw H))
      refine CH.cons0 rfl rfl <| D.stw 0 ty26 rfl rfl rfl rfl (encV_cell _) (encV_len _) (encV_len _) rfl fun _ => CH.nil <| ?_
      simp only [app, finL]
      refine UQ.blockN <| UQ.then <| S.rg <| Q.mv rfl <| S.qu (Z.add (r := ((j + 1 : Nat) : Int)) rfl rfl (IntWalk.i64_in _ (by omega))) <| Q.as rfl <| US.nil <| ?_
      refine S.back (j + 1, y1) ⟨rfl, rfl, rfl, rfl, rfl, trivial⟩ (.refl _) ?_ (by omega)
      exact ⟨hlt, hcj.symm⟩
  · have hjl : j = ks.length := by omega
    subst hjl
    rw [← hy]
    refine S.sq <| Q.rg <| Q.mv rfl <| Q.fa f26_3 rfl <| Q.lc 2 ty23 rfl rfl rfl <| S.qu (Z.lns sl23 rfl) <| Q.bi rfl rfl rfl <| Q.nt <| S.cF rfl (decide_eq_false (by omega)) <| UW.exit <| UQ.pass <| UQ.pass <| UQ.here <| UQ.then <| Q.rg <| S.qu (Z.ldw 0 ty26 rfl rfl (encV_len _)) <| S.s <| D.stw 1 ty26 rfl rfl rfl rfl (by exact encV_cell _) (encV_len _) rfl rfl fun _ => ?_
    refine Q.nt <| UW.ret <| S.rtR (fun hd => res_cell (k := 1) hd rfl rfl rfl st26 (by rw [encV_len]; exact sz26)) <| ?_
    rfl
/-- An object whose keys rise. -/
structure Ev (x : V) (N : Nat) : Prop where
  k : x.k = 5
  len : x.ks.length = x.vs.length
  asc : Asc x.ks
  le : x.ks.length ≤ N
  keys : ∀ s ∈ x.ks, s.size ≤ 4000000
  vals : ∀ v ∈ x.vs, Fits v
theorem Ev.fits {x : V} {N : Nat} (h : Ev x N) (hN : N ≤ 1000000) : Fits x := Fits.of (by have := h.le; omega) (by have := h.le; have := h.len; omega) h.vals
theorem ev_empty : Ev (.mk 5 0 ⟨#[]⟩ [] []) 0 := by
  refine ⟨rfl, rfl, ?_, Nat.le_refl _, ?_, ?_⟩
  · intro i j hi; exact absurd hi (Nat.not_lt_zero _)
  · intro s h; cases h
  · intro v h; cases h
theorem Ev.with {x : V} {N : Nat} (h : Ev x N) {key : ByteArray} (hk : key.size ≤ 4000000) {y : V} (hy : Fits y) : Ev (withV x key y) (N + 1) := by
  obtain ⟨k, n, t, ks, vs⟩ := x
  have h1 : k = 5 := h.k
  subst h1
  have hl : ks.length = vs.length := h.len
  have hle : ks.length ≤ N := h.le
  obtain ⟨ks', vs', e1, e2, e3, e4, e5⟩ := with_form (n := n) (t := t) hl h.asc key y
  have hw := (withV_lens (.mk 5 n t ks vs) key y).1
  rw [e1] at hw ⊢
  have hw' : ks'.length ≤ ks.length + 1 := hw
  exact ⟨rfl, e2, e3, by show ks'.length ≤ N + 1; omega, fun s hs => (e4 s hs).elim (h.keys s) (fun e => e ▸ hk), fun v hv => (e5 v hv).elim (h.vals v) (fun e => e ▸ hy)⟩
def redStep (x o : V) (key : ByteArray) : V := if (getV x key).2 = true then withV o key (if key = contentB ∧ (getV x key).1.k = 5 then contV (getV x typeB).1.t (getV x key).1 else (getV x key).1) else o
def redU (x : V) : Nat → V
  | 0 => .mk 5 0 ⟨#[]⟩ [] []
  | j + 1 => redStep x (redU x j) (fieldL.getD j ⟨#[]⟩)
def redR (x : V) : V := if x.k = 5 then redU x 10 else zeroV
theorem field_size : ∀ s ∈ fieldL, s.size ≤ 4000000 := by decide
theorem field_at (j : Nat) (hj : j < 10) : (fieldL.getD j ⟨#[]⟩).size ≤ 4000000 := field_size _ (getD_mem hj)
theorem contV_fits (kind : ByteArray) {x : V} (hx : Fits x) : Fits (contV kind x) := contU_fits kind hx _
theorem redU_ev {x : V} (hx : Fits x) : ∀ j, j ≤ 10 → Ev (redU x j) j
  | 0, _ => ev_empty
  | j + 1, hj => by
    have ih := redU_ev hx j (by omega)
    show Ev (redStep x (redU x j) (fieldL.getD j ⟨#[]⟩)) (j + 1)
    unfold redStep
    split
    · refine ih.with (field_at j (by omega)) <| ?_
      split
      · exact contV_fits _ (get_fits hx _)
      · exact get_fits hx _
    · exact ⟨ih.k, ih.len, ih.asc, by have := ih.le; omega, ih.keys, ih.vals⟩
theorem step_no {x o : V} {key : ByteArray} (h : (getV x key).2 = false) : redStep x o key = o := by unfold redStep; rw [if_neg (by rw [h]; simp)]
theorem step_plain {x o : V} {key : ByteArray} (h : (getV x key).2 = true) (h2 : ¬ (key = contentB ∧ (getV x key).1.k = 5)) : redStep x o key = withV o key (getV x key).1 := by unfold redStep; rw [if_pos h, if_neg h2]
theorem step_cont {x o : V} {key : ByteArray} (h : (getV x key).2 = true) (h2 : key = contentB ∧ (getV x key).1.k = 5) : redStep x o key = withV o key (contV (getV x typeB).1.t (getV x key).1) := by unfold redStep; rw [if_pos h, if_pos h2]
theorem redactR_spec (x : V) (hx : Fits x) (H : Hp) : ACall Tryz.prog 54 [.agg (encV x)] H (IsR H (.agg (encV (redR x)))) := by
  by_cases hk : x.k = 5
  · have hred : redR x = redU x 10 := by unfold redR; rw [if_pos hk]
    have hg : ∀ key H, ACall Tryz.prog 22 [.agg (encV x), .v (.string key)] H (IsR H (.tup [.agg (encV (getV x key).1), .v (.bool (getV x key).2)])) := fun key H => getR_spec x hx key H
    have hgf : ∀ key, Fits (getV x key).1 := fun key => get_fits hx key
    have hstep : ∀ j, redU x (j + 1) = redStep x (redU x j) (fieldL.getD j ⟨#[]⟩) := fun j => rfl
    have hev := fun j hj => redU_ev hx j hj
    have hu0 : redU x 0 = .mk 5 0 ⟨#[]⟩ [] [] := rfl
    have hcont : ∀ y, Fits y → ∀ H, ACall Tryz.prog 95 [.v (.string (getV x typeB).1.t), .agg (encV y)] H (IsR H (.agg (encV (contV (getV x typeB).1.t y)))) := fun y hy H => content_spec _ y hy H
    have hkd := hg typeB
    rw [hred]
    clear hred
    generalize redU x = ru at *
    have hc := fun j => @step_cont x (ru j) (fieldL.getD j ⟨#[]⟩)
    generalize hkd' : (getV x typeB).1 = kd at *
    generalize (getV x typeB).2 = kb at *
    obtain ⟨kk, kn, kt, kks, kvs⟩ := kd
    have hkt : (V.mk kk kn kt kks kvs).t = kt := rfl
    rw [hkt] at hcont hc
    have hkx : encV x = encV x := rfl
    obtain ⟨k, n, t, ks, vs⟩ := x
    have hk' : k = 5 := hk
    subst hk'
    refine UCall (n := 62) (H0 := H) (objs := []) Tryz.func54 (by kernel_rfl) rfl (by rw [Tryz.ntmps54]; rfl) .nil <| ?_
    refine Q.rg <| S.dd <| D.box rfl rfl rfl fun p1 => S.dd <| D.al z26 rfl rfl rfl fun p2 => Q.nt <| S.sq <| Q.rg <| Q.fa f26_0 rfl <| Q.lc 1 ty3 rfl rfl rfl <| Q.bi rfl rfl rfl <| Q.nt <| S.cF rfl (bne_f (by omega)) <| UW.skip <| UQ.then <| Q.rg <| S.qu (Z.eq (u' := strs fieldL) (Z.bl row23 rfl rfl (lit_ok rfl)) rfl) <| Q.as rfl <| Q.nt <| Q.rg <| S.qu (Z.ldw 1 ty26 rfl rfl rfl) <| S.qu (Z.call rfl rfl (fun H => hkd H)) <| Q.mv rfl <| S.qu (Z.ex rfl rfl) <| S.qu (Z.ex rfl rfl) <| S.dd <| D.al z26 rfl rfl rfl fun p4 => S.s <| D.st 0 ty26 rfl rfl rfl rfl rfl rfl rfl rfl fun _ => Q.as rfl <| Q.nt <| Q.rg <| S.qu (Z.bd [0] bt26 rfl rfl rfl rfl rfl rfl) <| S.dd <| D.al z26 rfl rfl rfl fun p6 => S.s <| D.st 0 ty26 rfl rfl rfl rfl rfl rfl rfl rfl fun _ => Q.nt <| S.sq <| Q.rg <| Q.as rfl <| Q.nt <| UW.block <| S.loop (fun j : Nat × V => [(7, .v (.int .i64 (j.1 : Int))), (6, .ptr p6 0), (4, .ptr p4 0), (3, strs fieldL), (2, .ptr p2 0), (1, .ptr p1 0)]) (fun j => [(p6, .box 26 (encV j.2)), (p4, .box 26 (encV (.mk kk kn kt kks kvs))), (p2, .box 26 (encV zeroV)), (p1, .box 26 (encV (.mk 5 n t ks vs)))]) (fun j => j.1 ≤ 10 ∧ j.2 = ru j.1) (fun j => 10 - j.1) (0, .mk 5 0 ⟨#[]⟩ [] []) ⟨Nat.zero_le _, hu0.symm⟩ ⟨rfl, rfl, rfl, rfl, rfl, rfl, trivial⟩ (.refl _) <| ?_
    rintro ⟨j, o⟩ ⟨hj, ho⟩
    dsimp only at hj ho ⊢
    have hfll : (fieldL.map encS).length = 10 := rfl
    by_cases hlt : j < 10
    · have hst := hstep j
      have hcj := hc j
      have hevj := hev j hj
      have hkz := field_at j hlt
      have hfl : (fieldL.map encS)[j]? = some (encS (fieldL.getD j ⟨#[]⟩)) := by rw [List.getElem?_map, List.getElem?_eq_getElem (show j < fieldL.length from hlt), getD_at (show j < fieldL.length from hlt)]; rfl
      rw [← ho] at hst hcj hevj
      have hfo := hevj.fits (by omega)
      have hks := hevj.keys
      generalize fieldL.getD j ⟨#[]⟩ = key at *
      have hgk := hg key
      have hgf' := hgf key
      have hs1 := @step_no (.mk 5 n t ks vs) o key
      have hs2 := @step_plain (.mk 5 n t ks vs) o key
      clear hstep hc hg hgf hev
      generalize redStep (.mk 5 n t ks vs) o key = st at *
      generalize (getV (.mk 5 n t ks vs) key).1 = g at *
      generalize (getV (.mk 5 n t ks vs) key).2 = is at *
      have hw : ∀ y H, ACall Tryz.prog 13 [.agg (encV o), .v (.string key), .agg (encV y)] H (IsR H (.agg (encV (withV o key y)))) := fun y H => withR_spec o hfo hks key y H
      have hcg := hcont g hgf'
      generalize hcvg : contV kt g = cg at *
      obtain ⟨gk, gn, gt, gks, gvs⟩ := g
      cases is with
      | false =>
        have hs := hs1 rfl
        clear hs1 hs2 hcj
        refine S.sq <| Q.rg <| Q.mv rfl <| Q.mv rfl <| S.qu (Z.lns sl23 rfl) <| Q.bi rfl rfl rfl <| Q.nt <| S.cT rfl (decide_eq_true (by omega)) <| UW.skip <| UQ.then <| S.sq <| UW.block <| S.sq <| ?_
        refine' UW.drawk (by kernel_rfl) [3, 0, 1, 2] [0, 0, 0, 6, 14, 31, 63, 127, 127, 0, 767, 2047] [some 28, some 29, some 30, some 31, some 32, some 33, some 27, some 34, some 35, none, none, none] [some (28, _), some (29, _), some (30, _), some (31, _), some (32, _), some (33, _), some (27, _), some (34, _), some (35, _), none, none, none] [9, 10, 11] [] rfl (by decide) (by decide) (QAll.kept (by decide) rfl rfl ?q5x0_0 (QAll.free (by decide) rfl rfl ?q5x0_1 (QAll.free (by decide) rfl rfl ?q5x0_2 (QAll.free (by decide) rfl rfl ?q5x0_3 (QAll.kept (by decide) rfl rfl ?q5x0_4 (QAll.free (by decide) rfl rfl ?q5x0_5 (QAll.free (by decide) rfl rfl ?q5x0_6 (QAll.free (by decide) rfl rfl ?q5x0_7 (QAll.free (by decide) rfl rfl ?q5x0_8 (QAll.skip (QAll.skip (QAll.skip QAll.nil)))))))))))) ?q5x0_k
        case q5x0_0 => (intro _ hK; exact Z.kw 0 hK ty26 rfl rfl rfl)
        case q5x0_1 => (intro _; exact Z.mv rfl)
        case q5x0_2 => (intro _; exact Z.mv rfl)
        case q5x0_3 => (intro _; exact Z.ia sl23 rfl rfl (by omega) hfl (by rfl))
        case q5x0_4 => (intro _ hK; exact Z.lpc ty9 rfl)
        case q5x0_5 => (intro _; exact Z.call rfl rfl (fun H => hgk H))
        case q5x0_6 => (intro _; exact Z.mv rfl)
        case q5x0_7 => (intro _; exact Z.ex rfl rfl)
        case q5x0_8 => (intro _; exact Z.ex rfl rfl)
        refine CH.cons rfl rfl (by decide) ?_ (.c 3 rfl (.c 0 rfl (.c 1 rfl (.c 2 rfl .n))))
        refine D.al z26 rfl rfl rfl fun p8 => ?_
        refine CH.cons0 rfl rfl ?_ (.c 4 rfl (.c 1 rfl (.c 2 rfl (.c 3 rfl .n))))
        refine D.st 0 ty26 rfl rfl rfl rfl rfl rfl rfl rfl fun _ => ?_
        refine CH.cons rfl rfl (by decide) ?_ (.c 4 rfl (.c 1 rfl (.c 2 rfl (.c 3 rfl .n))))
        refine D.qu (Z.as rfl) <| ?_
        refine CH.nil ?_ (.c 4 rfl (.c 1 rfl (.c 2 rfl (.c 3 rfl .n))))
        simp only [app, finL]
        refine UQ.then <| S.sq <| Q.rg <| Q.mv rfl <| Q.mv rfl <| Q.of <| Q.of <| Q.of <| Q.of <| Q.of <| Q.pk rfl rfl <| Q.mv rfl <| Q.of <| Q.of <| Q.of <| Q.pk rfl rfl <| Q.nt <| S.cF rfl rfl <| UW.skip <| UQ.then <| Q.rg <| Q.mv rfl <| Q.nt <| S.cF rfl rfl <| UW.skip <| UQ.blockN <| UQ.then <| S.rg <| Q.mv rfl <| S.qu (Z.add (r := ((j + 1 : Nat) : Int)) rfl rfl (IntWalk.i64_in _ (by omega))) <| Q.as rfl <| US.nil <| ?_
        refine S.back (j + 1, o) ⟨rfl, rfl, rfl, rfl, rfl, rfl, trivial⟩ (by repeat (first | exact List.Sublist.refl _ | exact List.nil_sublist _ | refine .cons_cons _ ?_ | refine .cons _ ?_)) ?_ (by omega)
        exact ⟨hlt, by show o = ru (j + 1); rw [hst, hs]⟩
      | true =>
        by_cases hkc : key.toList = contentB.toList
        · by_cases hgk5 : gk = 5
          · have hs := hcj rfl ⟨bytes_ext hkc, hgk5⟩
            clear hs1 hs2 hcj
            focus
              refine S.sq <| Q.rg <| Q.mv rfl <| Q.mv rfl <| S.qu (Z.lns sl23 rfl) <| Q.bi rfl rfl rfl <| Q.nt <| S.cT rfl (decide_eq_true (by omega)) <| UW.skip <| UQ.then <| S.sq <| UW.block <| S.sq <| ?_
              refine' UW.drawk (by kernel_rfl) [3, 0, 1, 2] [0, 0, 0, 6, 14, 31, 63, 127, 127, 0, 767, 2047] [some 28, some 29, some 30, some 31, some 32, some 33, some 27, some 34, some 35, none, none, none] [some (28, _), some (29, _), some (30, _), some (31, _), some (32, _), some (33, _), some (27, _), some (34, _), some (35, _), none, none, none] [9, 10, 11] [] rfl (by decide) (by decide) (QAll.kept (by decide) rfl rfl ?q6x0_0 (QAll.free (by decide) rfl rfl ?q6x0_1 (QAll.free (by decide) rfl rfl ?q6x0_2 (QAll.free (by decide) rfl rfl ?q6x0_3 (QAll.kept (by decide) rfl rfl ?q6x0_4 (QAll.free (by decide) rfl rfl ?q6x0_5 (QAll.free (by decide) rfl rfl ?q6x0_6 (QAll.free (by decide) rfl rfl ?q6x0_7 (QAll.free (by decide) rfl rfl ?q6x0_8 (QAll.skip (QAll.skip (QAll.skip QAll.nil)))))))))))) ?q6x0_k
              case q6x0_0 => (intro _ hK; exact Z.kw 0 hK ty26 rfl rfl rfl)
              case q6x0_1 => (intro _; exact Z.mv rfl)
              case q6x0_2 => (intro _; exact Z.mv rfl)
              case q6x0_3 => (intro _; exact Z.ia sl23 rfl rfl (by omega) hfl (by rfl))
              case q6x0_4 => (intro _ hK; exact Z.lpc ty9 rfl)
              case q6x0_5 => (intro _; exact Z.call rfl rfl (fun H => hgk H))
              case q6x0_6 => (intro _; exact Z.mv rfl)
              case q6x0_7 => (intro _; exact Z.ex rfl rfl)
              case q6x0_8 => (intro _; exact Z.ex rfl rfl)
              refine CH.cons rfl rfl (by decide) ?_ (.c 3 rfl (.c 0 rfl (.c 1 rfl (.c 2 rfl .n))))
              refine D.al z26 rfl rfl rfl fun p8 => ?_
              refine CH.cons0 rfl rfl ?_ (.c 4 rfl (.c 1 rfl (.c 2 rfl (.c 3 rfl .n))))
              refine D.st 0 ty26 rfl rfl rfl rfl rfl rfl rfl rfl fun _ => ?_
              refine CH.cons rfl rfl (by decide) ?_ (.c 4 rfl (.c 1 rfl (.c 2 rfl (.c 3 rfl .n))))
              refine D.qu (Z.as rfl) <| ?_
              refine CH.nil ?_ (.c 4 rfl (.c 1 rfl (.c 2 rfl (.c 3 rfl .n))))
              simp only [app, finL]
              refine UQ.then <| S.sq <| Q.rg <| Q.mv rfl <| Q.mv rfl <| Q.on (Z.mv rfl) <| Q.on (Z.mv rfl) <| Q.on (Z.ia sl23 rfl rfl (by omega) hfl (by rfl)) <| ?_
              refine Q.on (Z.lpc ty9 rfl) <| Q.on (Z.bs rfl rfl rfl) <| Q.pk rfl rfl <| Q.mv rfl <| ?_
              refine S.tE 44 (fun hc44 => ?_) (fun hc44 => ?_)
              rotate_left
              contradiction
              refine Q.on (Z.fa f26_0 rfl) <| Q.on (Z.ldc 0 ty3 rfl rfl rfl) <| Q.on (Z.bi rfl rfl rfl) <| Q.pk rfl rfl <| Q.nt <| S.cT rfl (beq_t (by omega)) <| S.rg <| Q.fa f26_2 rfl <| Q.lc 2 ty9 rfl rfl rfl <| S.qu (Z.ldw 0 ty26 rfl rfl rfl) <| S.qu (Z.call rfl rfl (fun H => hcg H)) <| S.s <| D.stw 0 ty26 rfl rfl rfl rfl (by exact encV_cell _) (encV_len _) rfl rfl fun _ => ?_
              refine Q.nt <| Q.rg <| Q.mv rfl <| Q.nt <| S.cT rfl rfl <| ?_
              refine' UW.draw' (by kernel_rfl) [0, 0, 0, 6, 14, 0, 63, 127] [some 54, some 55, some 56, some 57, some 58, some 59, some 60, none] [some (54, _), some (55, _), some (56, _), some (57, _), some (58, _), some (59, _), some (60, _), none] [7] [0, 4, 5] rfl (by decide) (by decide) (QAll.held (by decide) rfl rfl ?q6x1_0 (QAll.free (by decide) rfl rfl ?q6x1_1 (QAll.free (by decide) rfl rfl ?q6x1_2 (QAll.free (by decide) rfl rfl ?q6x1_3 (QAll.held (by decide) rfl rfl ?q6x1_4 (QAll.held (by decide) rfl rfl ?q6x1_5 (QAll.free (by decide) rfl rfl ?q6x1_6 (QAll.skip QAll.nil)))))))) ?q6x1_k
              case q6x1_0 => exact Z.ldw 1 ty26 rfl rfl (encV_len _)
              case q6x1_1 => (intro _; exact Z.mv rfl)
              case q6x1_2 => (intro _; exact Z.mv rfl)
              case q6x1_3 => (intro _; exact Z.ia sl23 rfl rfl (by omega) hfl (by rfl))
              case q6x1_4 => exact Z.lpc ty9 rfl
              case q6x1_5 => exact Z.ldw 0 ty26 rfl rfl (encV_len _)
              case q6x1_6 => (intro _; exact Z.call rfl rfl (fun H => hw cg H))
              refine CH.cons0 rfl rfl <| D.stw 1 ty26 rfl rfl rfl rfl (by exact encV_cell _) (encV_len _) (encV_len _) rfl fun _ => ?_
              refine CH.nil <| ?_
              simp only [app, finL]
              refine UQ.blockN <| UQ.then <| S.rg <| Q.mv rfl <| S.qu (Z.add (r := ((j + 1 : Nat) : Int)) rfl rfl (IntWalk.i64_in _ (by omega))) <| Q.as rfl <| US.nil <| ?_
              refine S.back (j + 1, withV o key cg) ⟨rfl, rfl, rfl, rfl, rfl, rfl, trivial⟩ (by repeat (first | exact List.Sublist.refl _ | exact List.nil_sublist _ | refine .cons_cons _ ?_ | refine .cons _ ?_)) ?_ (by omega)
            exact ⟨hlt, by show withV o key cg = ru (j + 1); rw [hst, hs]⟩
          · have hs := hs2 rfl (fun h => hgk5 h.2)
            clear hs1 hs2 hcj
            focus
              refine S.sq <| Q.rg <| Q.mv rfl <| Q.mv rfl <| S.qu (Z.lns sl23 rfl) <| Q.bi rfl rfl rfl <| Q.nt <| S.cT rfl (decide_eq_true (by omega)) <| UW.skip <| UQ.then <| S.sq <| UW.block <| S.sq <| ?_
              refine' UW.drawk (by kernel_rfl) [3, 0, 1, 2] [0, 0, 0, 6, 14, 31, 63, 127, 127, 0, 767, 2047] [some 28, some 29, some 30, some 31, some 32, some 33, some 27, some 34, some 35, none, none, none] [some (28, _), some (29, _), some (30, _), some (31, _), some (32, _), some (33, _), some (27, _), some (34, _), some (35, _), none, none, none] [9, 10, 11] [] rfl (by decide) (by decide) (QAll.kept (by decide) rfl rfl ?q7x0_0 (QAll.free (by decide) rfl rfl ?q7x0_1 (QAll.free (by decide) rfl rfl ?q7x0_2 (QAll.free (by decide) rfl rfl ?q7x0_3 (QAll.kept (by decide) rfl rfl ?q7x0_4 (QAll.free (by decide) rfl rfl ?q7x0_5 (QAll.free (by decide) rfl rfl ?q7x0_6 (QAll.free (by decide) rfl rfl ?q7x0_7 (QAll.free (by decide) rfl rfl ?q7x0_8 (QAll.skip (QAll.skip (QAll.skip QAll.nil)))))))))))) ?q7x0_k
              case q7x0_0 => (intro _ hK; exact Z.kw 0 hK ty26 rfl rfl rfl)
              case q7x0_1 => (intro _; exact Z.mv rfl)
              case q7x0_2 => (intro _; exact Z.mv rfl)
              case q7x0_3 => (intro _; exact Z.ia sl23 rfl rfl (by omega) hfl (by rfl))
              case q7x0_4 => (intro _ hK; exact Z.lpc ty9 rfl)
              case q7x0_5 => (intro _; exact Z.call rfl rfl (fun H => hgk H))
              case q7x0_6 => (intro _; exact Z.mv rfl)
              case q7x0_7 => (intro _; exact Z.ex rfl rfl)
              case q7x0_8 => (intro _; exact Z.ex rfl rfl)
              refine CH.cons rfl rfl (by decide) ?_ (.c 3 rfl (.c 0 rfl (.c 1 rfl (.c 2 rfl .n))))
              refine D.al z26 rfl rfl rfl fun p8 => ?_
              refine CH.cons0 rfl rfl ?_ (.c 4 rfl (.c 1 rfl (.c 2 rfl (.c 3 rfl .n))))
              refine D.st 0 ty26 rfl rfl rfl rfl rfl rfl rfl rfl fun _ => ?_
              refine CH.cons rfl rfl (by decide) ?_ (.c 4 rfl (.c 1 rfl (.c 2 rfl (.c 3 rfl .n))))
              refine D.qu (Z.as rfl) <| ?_
              refine CH.nil ?_ (.c 4 rfl (.c 1 rfl (.c 2 rfl (.c 3 rfl .n))))
              simp only [app, finL]
              refine UQ.then <| S.sq <| Q.rg <| Q.mv rfl <| Q.mv rfl <| Q.on (Z.mv rfl) <| Q.on (Z.mv rfl) <| Q.on (Z.ia sl23 rfl rfl (by omega) hfl (by rfl)) <| ?_
              refine Q.on (Z.lpc ty9 rfl) <| Q.on (Z.bs rfl rfl rfl) <| Q.pk rfl rfl <| Q.mv rfl <| ?_
              refine S.tE 44 (fun hc44 => ?_) (fun hc44 => ?_)
              rotate_left
              contradiction
              refine Q.on (Z.fa f26_0 rfl) <| Q.on (Z.ldc 0 ty3 rfl rfl rfl) <| Q.on (Z.bi rfl rfl rfl) <| Q.pk rfl rfl <| Q.nt <| S.cF rfl (beq_f (by omega)) <| UW.skip <| UQ.then <| Q.rg <| Q.mv rfl <| Q.nt <| S.cT rfl rfl <| ?_
              refine' UW.draw' (by kernel_rfl) [0, 0, 0, 6, 14, 0, 63, 127] [some 54, some 55, some 56, some 57, some 58, some 59, some 60, none] [some (54, _), some (55, _), some (56, _), some (57, _), some (58, _), some (59, _), some (60, _), none] [7] [0, 4, 5] rfl (by decide) (by decide) (QAll.held (by decide) rfl rfl ?q7x1_0 (QAll.free (by decide) rfl rfl ?q7x1_1 (QAll.free (by decide) rfl rfl ?q7x1_2 (QAll.free (by decide) rfl rfl ?q7x1_3 (QAll.held (by decide) rfl rfl ?q7x1_4 (QAll.held (by decide) rfl rfl ?q7x1_5 (QAll.free (by decide) rfl rfl ?q7x1_6 (QAll.skip QAll.nil)))))))) ?q7x1_k
              case q7x1_0 => exact Z.ldw 1 ty26 rfl rfl (encV_len _)
              case q7x1_1 => (intro _; exact Z.mv rfl)
              case q7x1_2 => (intro _; exact Z.mv rfl)
              case q7x1_3 => (intro _; exact Z.ia sl23 rfl rfl (by omega) hfl (by rfl))
              case q7x1_4 => exact Z.lpc ty9 rfl
              case q7x1_5 => exact Z.ldw 0 ty26 rfl rfl rfl
              case q7x1_6 => (intro _; exact Z.call rfl rfl (fun H => hw (.mk gk gn gt gks gvs) H))
              refine CH.cons0 rfl rfl <| D.stw 1 ty26 rfl rfl rfl rfl (by exact encV_cell _) (encV_len _) (encV_len _) rfl fun _ => ?_
              refine CH.nil <| ?_
              simp only [app, finL]
              refine UQ.blockN <| UQ.then <| S.rg <| Q.mv rfl <| S.qu (Z.add (r := ((j + 1 : Nat) : Int)) rfl rfl (IntWalk.i64_in _ (by omega))) <| Q.as rfl <| US.nil <| ?_
              refine S.back (j + 1, withV o key (.mk gk gn gt gks gvs)) ⟨rfl, rfl, rfl, rfl, rfl, rfl, trivial⟩ (by repeat (first | exact List.Sublist.refl _ | exact List.nil_sublist _ | refine .cons_cons _ ?_ | refine .cons _ ?_)) ?_ (by omega)
            exact ⟨hlt, by show withV o key _ = ru (j + 1); rw [hst, hs]⟩
        · have hs := hs2 rfl (fun h => hkc (by rw [h.1]))
          clear hs1 hs2 hcj
          refine S.sq <| Q.rg <| Q.mv rfl <| Q.mv rfl <| S.qu (Z.lns sl23 rfl) <| Q.bi rfl rfl rfl <| Q.nt <| S.cT rfl (decide_eq_true (by omega)) <| UW.skip <| UQ.then <| S.sq <| UW.block <| S.sq <| ?_
          refine' UW.drawk (by kernel_rfl) [3, 0, 1, 2] [0, 0, 0, 6, 14, 31, 63, 127, 127, 0, 767, 2047] [some 28, some 29, some 30, some 31, some 32, some 33, some 27, some 34, some 35, none, none, none] [some (28, _), some (29, _), some (30, _), some (31, _), some (32, _), some (33, _), some (27, _), some (34, _), some (35, _), none, none, none] [9, 10, 11] [] rfl (by decide) (by decide) (QAll.kept (by decide) rfl rfl ?q8x0_0 (QAll.free (by decide) rfl rfl ?q8x0_1 (QAll.free (by decide) rfl rfl ?q8x0_2 (QAll.free (by decide) rfl rfl ?q8x0_3 (QAll.kept (by decide) rfl rfl ?q8x0_4 (QAll.free (by decide) rfl rfl ?q8x0_5 (QAll.free (by decide) rfl rfl ?q8x0_6 (QAll.free (by decide) rfl rfl ?q8x0_7 (QAll.free (by decide) rfl rfl ?q8x0_8 (QAll.skip (QAll.skip (QAll.skip QAll.nil)))))))))))) ?q8x0_k
          case q8x0_0 => (intro _ hK; exact Z.kw 0 hK ty26 rfl rfl rfl)
          case q8x0_1 => (intro _; exact Z.mv rfl)
          case q8x0_2 => (intro _; exact Z.mv rfl)
          case q8x0_3 => (intro _; exact Z.ia sl23 rfl rfl (by omega) hfl (by rfl))
          case q8x0_4 => (intro _ hK; exact Z.lpc ty9 rfl)
          case q8x0_5 => (intro _; exact Z.call rfl rfl (fun H => hgk H))
          case q8x0_6 => (intro _; exact Z.mv rfl)
          case q8x0_7 => (intro _; exact Z.ex rfl rfl)
          case q8x0_8 => (intro _; exact Z.ex rfl rfl)
          refine CH.cons rfl rfl (by decide) ?_ (.c 3 rfl (.c 0 rfl (.c 1 rfl (.c 2 rfl .n))))
          refine D.al z26 rfl rfl rfl fun p8 => ?_
          refine CH.cons0 rfl rfl ?_ (.c 4 rfl (.c 1 rfl (.c 2 rfl (.c 3 rfl .n))))
          refine D.st 0 ty26 rfl rfl rfl rfl rfl rfl rfl rfl fun _ => ?_
          refine CH.cons rfl rfl (by decide) ?_ (.c 4 rfl (.c 1 rfl (.c 2 rfl (.c 3 rfl .n))))
          refine D.qu (Z.as rfl) <| ?_
          refine CH.nil ?_ (.c 4 rfl (.c 1 rfl (.c 2 rfl (.c 3 rfl .n))))
          simp only [app, finL]
          refine UQ.then <| S.sq <| Q.rg <| Q.mv rfl <| Q.mv rfl <| Q.on (Z.mv rfl) <| Q.on (Z.mv rfl) <| Q.on (Z.ia sl23 rfl rfl (by omega) hfl (by rfl)) <| ?_
          refine Q.on (Z.lpc ty9 rfl) <| Q.on (Z.bs rfl rfl rfl) <| Q.pk rfl rfl <| Q.mv rfl <| S.tF 44 (beq_f (by assumption)) <| ?_
          refine Q.of <| Q.of <| Q.of <| Q.pk rfl rfl <| Q.nt <| S.cF rfl rfl <| UW.skip <| UQ.then <| Q.rg <| Q.mv rfl <| Q.nt <| S.cT rfl rfl <| ?_
          refine' UW.draw' (by kernel_rfl) [0, 0, 0, 6, 14, 0, 63, 127] [some 54, some 55, some 56, some 57, some 58, some 59, some 60, none] [some (54, _), some (55, _), some (56, _), some (57, _), some (58, _), some (59, _), some (60, _), none] [7] [0, 4, 5] rfl (by decide) (by decide) (QAll.held (by decide) rfl rfl ?q8x1_0 (QAll.free (by decide) rfl rfl ?q8x1_1 (QAll.free (by decide) rfl rfl ?q8x1_2 (QAll.free (by decide) rfl rfl ?q8x1_3 (QAll.held (by decide) rfl rfl ?q8x1_4 (QAll.held (by decide) rfl rfl ?q8x1_5 (QAll.free (by decide) rfl rfl ?q8x1_6 (QAll.skip QAll.nil)))))))) ?q8x1_k
          case q8x1_0 => exact Z.ldw 1 ty26 rfl rfl (encV_len _)
          case q8x1_1 => (intro _; exact Z.mv rfl)
          case q8x1_2 => (intro _; exact Z.mv rfl)
          case q8x1_3 => (intro _; exact Z.ia sl23 rfl rfl (by omega) hfl (by rfl))
          case q8x1_4 => exact Z.lpc ty9 rfl
          case q8x1_5 => exact Z.ldw 0 ty26 rfl rfl rfl
          case q8x1_6 => (intro _; exact Z.call rfl rfl (fun H => hw (.mk gk gn gt gks gvs) H))
          refine CH.cons0 rfl rfl <| D.stw 1 ty26 rfl rfl rfl rfl (by exact encV_cell _) (encV_len _) (encV_len _) rfl fun _ => ?_
          refine CH.nil <| ?_
          simp only [app, finL]
          refine UQ.blockN <| UQ.then <| S.rg <| Q.mv rfl <| S.qu (Z.add (r := ((j + 1 : Nat) : Int)) rfl rfl (IntWalk.i64_in _ (by omega))) <| Q.as rfl <| US.nil <| ?_
          refine S.back (j + 1, withV o key (.mk gk gn gt gks gvs)) ⟨rfl, rfl, rfl, rfl, rfl, rfl, trivial⟩ (by repeat (first | exact List.Sublist.refl _ | exact List.nil_sublist _ | refine .cons_cons _ ?_ | refine .cons _ ?_)) ?_ (by omega)
          exact ⟨hlt, by show withV o key _ = ru (j + 1); rw [hst, hs]⟩
    · have hj10 : j = 10 := by omega
      subst hj10
      rw [← ho]
      refine S.sq <| Q.rg <| Q.mv rfl <| Q.mv rfl <| S.qu (Z.lns sl23 rfl) <| Q.bi rfl rfl rfl <| Q.nt <| S.cF rfl (decide_eq_false (by omega)) <| UW.exit <| UQ.pass <| UQ.pass <| UQ.here <| UQ.then <| Q.rg <| S.qu (Z.ldw 0 ty26 rfl rfl (encV_len _)) <| S.s <| D.stw 2 ty26 rfl rfl rfl rfl (by exact encV_cell _) (encV_len _) rfl rfl fun _ => ?_
      refine Q.nt <| UW.ret <| S.rtR (fun hd => res_cell (k := 2) hd rfl rfl rfl st26 (by rw [encV_len]; exact sz26)) <| ?_
      rfl
  · have hred : redR x = zeroV := by unfold redR; rw [if_neg hk]
    rw [hred]
    obtain ⟨k, n, t, ks, vs⟩ := x
    have hk' : ¬ k = 5 := hk
    refine UCall (n := 62) (H0 := H) (objs := []) Tryz.func54 (by kernel_rfl) rfl (by rw [Tryz.ntmps54]; rfl) .nil <| ?_
    refine Q.rg <| S.dd <| D.box rfl rfl rfl fun p1 => S.dd <| D.al z26 rfl rfl rfl fun p2 => Q.nt <| S.sq <| Q.rg <| Q.fa f26_0 rfl <| Q.lc 1 ty3 rfl rfl rfl <| Q.bi rfl rfl rfl <| Q.nt <| S.cT rfl (bne_t (by omega)) <| Q.rg <| S.qu (Z.bd [] bt26 rfl rfl rfl rfl rfl rfl) <| S.s <| D.st 0 ty26 rfl rfl rfl rfl rfl rfl rfl rfl fun _ => Q.nt <| UW.ret <| UQ.passR <| S.rtR (fun hd => res_cell (k := 0) hd rfl rfl rfl st26 sz26) <| ?_
    rfl
end Go.Proofs.YtgmfgmbgmjbdhaaGreatDoor
end
section
namespace Go.Proofs.YtgmfgmbgmjbdhaaGreatDoor
open Go Go.RowKit Go.Eng
set_option linter.unusedSimpArgs false
set_option linter.unusedVariables false
set_option maxRecDepth 100000
set_option maxHeartbeats 4000000
theorem ba_ext {a b : ByteArray} (h : a.data.toList = b.data.toList) : a = b := ByteArray.ext (Array.ext' h)
theorem ba_app (a b : ByteArray) : (a ++ b).data.toList = a.data.toList ++ b.data.toList := by rw [ByteArray.data_append, Array.toList_append]
theorem byteB_l (c : Int) : (byteB c).data.toList = [UInt8.ofNat c.toNat] := rfl
theorem decB_l (n : Int) : (decB n).data.toList = Lib.itoa n := rfl
theorem dec_step {u : Nat} (h : ¬ u < 10) : Lib.decDigits u = Lib.decDigits (u / 10) ++ [UInt8.ofNat (48 + u % 10)] := by rw [Lib.decDigits, dif_neg h]
theorem dec_ns {n : Int} (h : n < 0) (h1 : -10 < n) : byteB 45 ++ byteB (48 + -n) = decB n := by
  refine ba_ext ?_
  rw [ba_app, byteB_l, byteB_l, decB_l]
  unfold Lib.itoa
  rw [if_pos h, Lib.decDigits_one (by omega), show (48 + -n).toNat = 48 + n.natAbs from by omega]; rfl
theorem dec_nb {n : Int} (h : n ≤ -10) : decB (n.tdiv 10) ++ byteB (48 + -(n.tmod 10)) = decB n := by
  have h1 : n.tdiv 10 = -((n.natAbs / 10 : Nat) : Int) := by
    rw [show n = -((n.natAbs : Nat) : Int) from by omega, Int.neg_tdiv]
    congr 1
    rw [Int.natAbs_neg, Int.natAbs_natCast]; rfl
  have h2 : n.tmod 10 = -((n.natAbs % 10 : Nat) : Int) := by
    rw [show n = -((n.natAbs : Nat) : Int) from by omega, Int.neg_tmod]
    congr 1
    rw [Int.natAbs_neg, Int.natAbs_natCast]; rfl
  refine ba_ext ?_
  rw [ba_app, byteB_l, decB_l, decB_l, h1, h2]
  unfold Lib.itoa
  rw [if_pos (by omega), if_pos (by omega), Int.natAbs_neg, Int.natAbs_natCast, dec_step (u := n.natAbs) (by omega), show (48 + -(-((n.natAbs % 10 : Nat) : Int))).toNat = 48 + n.natAbs % 10 from by omega]; rfl
theorem dec_ps {n : Int} (h : 0 ≤ n) (h1 : n < 10) : byteB (48 + n) = decB n := by
  refine ba_ext ?_
  rw [byteB_l, decB_l]
  unfold Lib.itoa
  rw [if_neg (by omega), Lib.decDigits_one (by omega), show (48 + n).toNat = 48 + n.toNat from by omega]
theorem dec_pb {n : Int} (h : 10 ≤ n) : decB (n.tdiv 10) ++ byteB (48 + n.tmod 10) = decB n := by
  have h1 : n.tdiv 10 = n / 10 := Int.tdiv_eq_ediv_of_nonneg (by omega)
  have h2 : n.tmod 10 = n % 10 := Int.tmod_eq_emod_of_nonneg (by omega)
  refine ba_ext ?_
  rw [ba_app, byteB_l, decB_l, decB_l, h1, h2]
  unfold Lib.itoa
  rw [if_neg (by omega), if_neg (by omega), dec_step (u := n.toNat) (by omega), show (48 + n % 10).toNat = 48 + n.toNat % 10 from by omega, show (n / 10).toNat = n.toNat / 10 from by omega]
def sumS : List ByteArray → Nat
  | [] => 0
  | a :: r => a.size + 1 + sumS r
def comma : ByteArray := ⟨#[44]⟩
theorem joinB_l (l : List ByteArray) (sep : ByteArray) : (joinB l sep).data.toList = Lib.join (l.map (·.data.toList)) sep.data.toList := rfl
theorem joinTail_snoc (sep : List UInt8) (r : List (List UInt8)) (y : List UInt8) : Lib.joinTail sep (r ++ [y]) = Lib.joinTail sep r ++ sep ++ y := by unfold Lib.joinTail; simp [List.append_assoc]
theorem join_snoc (l : List ByteArray) (x sep : ByteArray) : joinB (l ++ [x]) sep = if l = [] then x else (joinB l sep ++ sep) ++ x := by
  cases l with
  | nil => exact ba_ext (by rw [joinB_l]; exact Lib.join_one _ _)
  | cons a r =>
    rw [if_neg (by simp)]
    refine ba_ext ?_
    rw [ba_app, ba_app, joinB_l, joinB_l, List.cons_append, List.map_cons, List.map_append, List.map_cons, List.map_nil, List.map_cons, Lib.join_cons, Lib.join_cons, joinTail_snoc]
    simp only [List.append_assoc]
theorem joinTail_size : ∀ r : List ByteArray, (Lib.joinTail comma.data.toList (r.map (·.data.toList))).length = sumS r
  | [] => rfl
  | a :: r => by
    have := joinTail_size r
    unfold Lib.joinTail at this ⊢
    simp only [List.map_cons, List.flatten_cons, List.length_append, this]
    show 1 + _ + _ = a.size + 1 + sumS r
    have : a.data.toList.length = a.size := data_len a
    omega
theorem joinB_size (l : List ByteArray) : (joinB l comma).size ≤ sumS l := by
  have h := data_len (joinB l comma)
  rw [← h, joinB_l]
  cases l with
  | nil => exact Nat.zero_le _
  | cons a r =>
    rw [List.map_cons, Lib.join_cons, List.length_append, joinTail_size]
    have : a.data.toList.length = a.size := data_len a
    show _ ≤ a.size + 1 + sumS r
    omega
theorem sumS_take : ∀ (l : List ByteArray) (k : Nat), sumS (l.take k) ≤ sumS l
  | [], k => by simp [sumS]
  | a :: r, 0 => Nat.zero_le _
  | a :: r, k + 1 => by have := sumS_take r k; show a.size + 1 + sumS (r.take k) ≤ a.size + 1 + sumS r; omega
theorem sumS_at : ∀ (l : List ByteArray) (k : Nat) (h : k < l.length), l[k].size ≤ sumS l
  | a :: r, 0, _ => by show a.size ≤ a.size + 1 + sumS r; omega
  | a :: r, k + 1, h => by have := sumS_at r k (by simpa using h); show (r[k]'(by simpa using h)).size ≤ a.size + 1 + sumS r; omega
/-- Elements, each behind its key. -/
def pairP (b : Bool) : List ByteArray → List ByteArray → List ByteArray
  | _, [] => []
  | [], p :: ps => p :: pairP b [] ps
  | key :: ks, p :: ps => (if b = true then (quoteB key ++ byteB 58) ++ p else p) :: pairP b ks ps
theorem pairP_len (b : Bool) : ∀ ks ps : List ByteArray, (pairP b ks ps).length = ps.length
  | [], [] => rfl
  | _ :: _, [] => rfl
  | [], p :: ps => by show _ + 1 = _ + 1; rw [pairP_len b [] ps]
  | _ :: ks, p :: ps => by show _ + 1 = _ + 1; rw [pairP_len b ks ps]
theorem pairP_nil (b : Bool) : ∀ ps : List ByteArray, pairP b [] ps = ps
  | [] => rfl
  | p :: ps => by show p :: _ = _; rw [pairP_nil b ps]
theorem pairP_at (b : Bool) : ∀ (ks ps : List ByteArray) (i : Nat), i < ps.length → (pairP b ks ps).getD i ⟨#[]⟩ = if b = true ∧ i < ks.length then (quoteB (ks.getD i ⟨#[]⟩) ++ byteB 58) ++ ps.getD i ⟨#[]⟩ else ps.getD i ⟨#[]⟩
  | [], ps, i, h => by rw [pairP_nil, if_neg (by rintro ⟨_, h2⟩; simp at h2)]
  | key :: ks, p :: ps, 0, h => by
    show (if b = true then _ else _) = _
    by_cases hb : b = true
    · rw [if_pos hb, if_pos ⟨hb, Nat.zero_lt_succ _⟩]; rfl
    · rw [if_neg hb, if_neg (fun h => hb h.1)]; rfl
  | key :: ks, p :: ps, i + 1, h => by
    show (pairP b ks ps).getD i ⟨#[]⟩ = _
    rw [pairP_at b ks ps i (by simpa using h)]
    show _ = if b = true ∧ i + 1 < ks.length + 1 then (quoteB (ks.getD i ⟨#[]⟩) ++ byteB 58) ++ ps.getD i ⟨#[]⟩ else ps.getD i ⟨#[]⟩
    by_cases hb : b = true ∧ i < ks.length
    · rw [if_pos hb, if_pos ⟨hb.1, by omega⟩]
    · rw [if_neg hb, if_neg (fun h => hb ⟨h.1, by omega⟩)]
def wtK : List ByteArray → Nat
  | [] => 0
  | a :: r => 6 * a.size + 4 + wtK r
theorem pairP_sum (b : Bool) : ∀ ks ps : List ByteArray, sumS (pairP b ks ps) ≤ wtK ks + sumS ps
  | [], ps => by rw [pairP_nil]; exact Nat.le_add_left _ _
  | _ :: _, [] => Nat.zero_le _
  | key :: ks, p :: ps => by
    have h1 := pairP_sum b ks ps
    have h2 := quoteB_size key
    show (if b = true then (quoteB key ++ byteB 58) ++ p else p).size + 1 + sumS (pairP b ks ps) ≤ 6 * key.size + 4 + wtK ks + (p.size + 1 + sumS ps)
    split
    · rw [app_size, app_size, byteB_size]; omega
    · omega
def nullB : ByteArray := ⟨#[110, 117, 108, 108]⟩
/-- What a value is printed as, its elements printed. -/
def prB (k n : Int) (t : ByteArray) (ks ps : List ByteArray) : ByteArray :=
  if k = 0 then nullB else if k = 1 then truthB (n == 1) else if k = 2 then decB n else if k = 3 then quoteB t else
  if k = 5 then (byteB 123 ++ joinB (pairP true ks ps) comma) ++ byteB 125 else (byteB 91 ++ joinB (pairP false ks ps) comma) ++ byteB 93
mutual
def printV : V → ByteArray
  | .mk k n t ks vs => prB k n t ks (printsV vs)
def printsV : List V → List ByteArray
  | [] => []
  | v :: r => printV v :: printsV r
end
theorem printsV_eq : ∀ l : List V, printsV l = l.map printV
  | [] => by rw [printsV]; rfl
  | v :: r => by rw [printsV, printsV_eq r]; rfl
theorem printV_mk (k n : Int) (t : ByteArray) (ks : List ByteArray) (vs : List V) : printV (.mk k n t ks vs) = prB k n t ks (vs.map printV) := by rw [printV, printsV_eq]
mutual
def wtV : V → Nat
  | .mk _ _ t ks vs => 30 + 6 * t.size + wtK ks + wtVs vs
def wtVs : List V → Nat
  | [] => 0
  | v :: r => wtV v + 1 + wtVs r
end
theorem wtV_mk (k n : Int) (t : ByteArray) (ks : List ByteArray) (vs : List V) : wtV (.mk k n t ks vs) = 30 + 6 * t.size + wtK ks + wtVs vs := by rw [wtV]
theorem wtVs_mem : ∀ {vs : List V} {x : V}, x ∈ vs → wtV x < wtVs vs + 1
  | v :: r, x, h => by
    rw [wtVs]
    rcases List.mem_cons.1 h with rfl | h
    · omega
    · have := wtVs_mem h; omega
theorem wtK_at : ∀ (ks : List ByteArray) (i : Nat) (h : i < ks.length), ks[i].size ≤ wtK ks
  | a :: r, 0, _ => by show a.size ≤ 6 * a.size + 4 + wtK r; omega
  | a :: r, k + 1, h => by have := wtK_at r k (by simpa using h); show (r[k]'(by simpa using h)).size ≤ 6 * a.size + 4 + wtK r; omega
/-- Numbers that an int64 holds. -/
inductive NumV : V → Prop
  | mk (k n : Int) (t : ByteArray) (ks : List ByteArray) (vs : List V) (h0 : -9223372036854775808 ≤ n) (h1 : n ≤ 9223372036854775807) (h : ∀ x ∈ vs, NumV x) : NumV (.mk k n t ks vs)
theorem sumS_wt : ∀ vs : List V, (∀ x ∈ vs, (printV x).size ≤ wtV x) → sumS (vs.map printV) ≤ wtVs vs
  | [], _ => Nat.zero_le _
  | v :: r, h => by
    have h1 := sumS_wt r (fun x hx => h x (List.mem_cons_of_mem _ hx))
    have h2 := h v (List.mem_cons_self ..)
    rw [wtVs]
    show (printV v).size + 1 + sumS (r.map printV) ≤ _
    omega
theorem truthB_size (b : Bool) : (truthB b).size ≤ 5 := by cases b <;> decide
theorem printV_size {x : V} (hn : NumV x) : (printV x).size ≤ wtV x := by
  induction hn with
  | mk k n t ks vs h0 h1 h ih =>
    have h2 := sumS_wt vs ih
    have h3 := pairP_sum true ks (vs.map printV)
    have h4 := pairP_sum false ks (vs.map printV)
    have h5 := joinB_size (pairP true ks (vs.map printV))
    have h6 := joinB_size (pairP false ks (vs.map printV))
    have h7 := quoteB_size t
    have h8 := decB_size n h0 h1
    have h9 := truthB_size (n == 1)
    have h10 : nullB.size = 4 := rfl
    rw [printV_mk, wtV_mk]
    unfold prB
    (repeat' split) <;> (try simp only [app_size, byteB_size]) <;> omega
/-- A value that can be printed. -/
structure Pr (x : V) : Prop where
  fits : Fits x
  num : NumV x
  wt : wtV x ≤ 1000000000
theorem Pr.kid {k n : Int} {t : ByteArray} {ks : List ByteArray} {vs : List V} (h : Pr (.mk k n t ks vs)) {x : V} (hx : x ∈ vs) : Pr x := by
  have h1 := h.fits; have h2 := h.num; have h3 := h.wt
  rw [wtV_mk] at h3
  have h4 := wtVs_mem hx
  cases h1 with | mk _ _ _ _ _ a b c => cases h2 with | mk _ _ _ _ _ d e f => exact ⟨c x hx, f x hx, by omega⟩
end Go.Proofs.YtgmfgmbgmjbdhaaGreatDoor
end
