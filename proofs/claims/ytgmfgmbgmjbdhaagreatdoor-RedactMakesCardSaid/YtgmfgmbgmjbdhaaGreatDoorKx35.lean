/- What stays of an event: the program's. · Objects with sorted keys: put in, taken out. · Objects: what With, Get and Without do to each other. -/
import Derived.Test.YtgmfgmbgmjbdhaaGreatDoorKx34
import Derived.Test.YtgmfgmbgmjbdhaaGreatDoorKx16
section
namespace Go.Proofs.YtgmfgmbgmjbdhaaGreatDoor
open Go Go.RowKit Go.Eng
set_option linter.unusedSimpArgs false
set_option linter.unusedVariables false
set_option maxRecDepth 100000
set_option maxHeartbeats 4000000
theorem D.apl {P : Program} {n : Nat} {ops : Array Oper} {H0 : Hp} {K : AV → List (Nat × Ob) → Prop} {l : List (Nat × AV)} {objs : List (Nat × Ob)} {dst : Option Nat} {ty t e sz b id : Nat} {ps : String} {af : Array Edge} {u : AV} {rows news rws : List (List AV)} {s x : Operand} {len : Nat} (k m : Nat) (ht : RowT P t e sz b) (hs : evO l s = some (.own id 0 len sz)) (h2 : objs[k]? = some (id, .row e sz rows)) (hle : len ≤ rows.length) (hx : evO l x = some u) (hsrc : SrcO objs sz u news) (hb : (len + news.length) * b ≤ 140737488355328) (hr : rows.take len ++ news = rws) (hm : len + news.length = m)
    (hk : ∀ id', K (.own id' 0 m sz) ((id', .row e sz rws) :: objs.eraseIdx k)) : DS P n ops H0 ⟨dst, .call { callee := .builtin .append, args := #[s, x], argTypes := #[t, t] }, ty, ps, af, none⟩ l objs K := by
  subst hm
  exact D.ap k ht hs h2 hle hx hsrc hb hr hk
/-- The pairs whose keys may stay, among the first i. -/
def sel (ks : List ByteArray) (vs : List V) (g : ByteArray → Bool) (i : Nat) : List (ByteArray × V) := ((ks.zip vs).take i).filter fun p => g p.1
def pickV (x : V) (g : ByteArray → Bool) : V := .mk 5 0 ⟨#[]⟩ ((sel x.ks x.vs g (min x.ks.length x.vs.length)).map (·.1)) ((sel x.ks x.vs g (min x.ks.length x.vs.length)).map (·.2))
theorem sel_succ (ks : List ByteArray) (vs : List V) (g : ByteArray → Bool) (i : Nat) (h1 : i < ks.length) (h2 : i < vs.length) : sel ks vs g (i + 1) = sel ks vs g i ++ (if g ks[i] = true then [(ks[i], vs[i])] else []) := by
  unfold sel
  have hz : i < (ks.zip vs).length := by rw [List.length_zip]; omega
  rw [List.take_add_one, List.getElem?_eq_getElem hz, List.filter_append, List.getElem_zip]
  congr 1
  show List.filter _ [(ks[i], vs[i])] = _
  by_cases hg : g ks[i] = true
  · simp [hg]
  · have : g ks[i] = false := by simpa using hg
    simp [this]
theorem sel_len (ks : List ByteArray) (vs : List V) (g : ByteArray → Bool) (i : Nat) : (sel ks vs g i).length ≤ i := by
  unfold sel
  have h1 := List.length_filter_le (fun p : ByteArray × V => g p.1) ((ks.zip vs).take i)
  rw [List.length_take] at h1
  omega
theorem pick_own (x : V) (hx : Fits x) (f : Nat) (caps : List AV) (g : ByteArray → Bool) (H : Hp) (hmay : ∀ k ∈ x.ks, ∀ H', Sub H H' → ACall Tryz.prog f ([.v (.string k)] ++ caps) H' (IsR H' (.v (.bool (g k))))) : ACall Tryz.prog 47 [.agg (encV x), .clo f caps] H (OwnV H (pickV x g)) := by
  obtain ⟨k, n, t, ks, vs⟩ := x
  have hks : (V.mk k n t ks vs).ks = ks := rfl
  rw [hks] at hmay
  have hvl := encVs_len vs
  have hkl : (ks.map encS).length = ks.length := List.length_map ..
  have hb : ks.length ≤ 1000000 ∧ vs.length ≤ 1000000 ∧ ∀ x ∈ vs, Fits x := by cases hx with | mk _ _ _ _ _ a b c => exact ⟨a, b, c⟩
  refine UCall (n := 48) (H0 := H) (objs := []) Tryz.func47 (by kernel_rfl) rfl (by rw [Tryz.ntmps47]; rfl) .nil <| ?_
  refine Q.rg <| S.dd <| D.box rfl rfl rfl fun p2 => S.dd <| D.al z26 rfl rfl rfl fun p4 => Q.nt <| Q.rg <| S.qu (Z.bdp [0] bt26 rfl rfl rfl rfl rfl) <| S.dd <| D.al z26 rfl rfl rfl fun p5 => S.s <| D.st 0 ty26 rfl rfl rfl rfl rfl rfl rfl rfl fun _ => ?_
  (refine US.nilCell (sz := 1) 0 3 9 (by decide) rfl rfl (fun rk => ?_); simp only [List.set_cons_zero, List.set_cons_succ])
  (refine US.nilCell (sz := 5) 1 4 26 (by decide) rfl rfl (fun rv => ?_); simp only [List.set_cons_zero, List.set_cons_succ])
  refine Q.nt <| S.sq <| Q.rg <| Q.fa f26_3 rfl <| Q.lc 4 ty23 rfl rfl rfl <| S.qu (Z.lns sl23 rfl) <| Q.fa f26_4 rfl <| Q.lc 4 ty24 rfl rfl rfl <| S.qu (Z.lns sl24 rfl) <| ?_
  refine S.qu (Z.eq (u' := .v (.int .i64 ((min ks.length vs.length : Nat) : Int))) (Z.min rfl rfl) (by congr 2; rw [hkl, hvl]; split <;> omega)) ?_
  refine Q.mv rfl <| Q.nt <| UW.block <| S.loop (fun j : Nat × Nat × Nat => [(15, .v (.int .i64 (j.1 : Int))), (14, .v (.int .i64 ((min ks.length vs.length : Nat) : Int))), (1, .clo f caps), (5, .ptr p5 0), (4, .ptr p4 0), (2, .ptr p2 0)]) (fun j => [(j.2.2, .row 26 5 (encVs ((sel ks vs g j.1).map (·.2)))), (j.2.1, .row 9 1 (((sel ks vs g j.1).map (·.1)).map encS)), (p5, .box 26 [.v (.int .i64 5), .v (.int .i64 0), .v (.string ⟨#[]⟩), .own j.2.1 0 (sel ks vs g j.1).length 1, .own j.2.2 0 (sel ks vs g j.1).length 5]), (p4, .box 26 (encV zeroV)), (p2, .box 26 (encV (.mk k n t ks vs)))]) (fun j => j.1 ≤ min ks.length vs.length) (fun j => min ks.length vs.length - j.1) (0, rk, rv) (Nat.zero_le _) ⟨rfl, rfl, rfl, rfl, rfl, rfl, trivial⟩ (.refl _) <| ?_
  rintro ⟨j, r1, r2⟩ hj
  dsimp only at hj ⊢
  have hsl := sel_len ks vs g j
  have h1l : (((sel ks vs g j).map (·.1)).map encS).length = (sel ks vs g j).length := by rw [List.length_map, List.length_map]
  have h2l : (encVs ((sel ks vs g j).map (·.2))).length = (sel ks vs g j).length := by rw [encVs_len, List.length_map]
  by_cases hlt : j < min ks.length vs.length
  · have hjk : j < ks.length := by omega
    have hjv : j < vs.length := by omega
    have hgk := strs_get ks j hjk
    have hgv := encVs_get vs j hjv
    have hfv := hb.2.2 vs[j] (List.getElem_mem hjv)
    have hcp : ∀ H, ACall Tryz.prog 68 [.agg (encV vs[j])] H (IsR H (.agg (encV vs[j]))) := fun H => copyR_pure (copy_spec vs[j] hfv H)
    have hmk := hmay ks[j] (List.getElem_mem hjk)
    have hsu := sel_succ ks vs g j hjk hjv
    by_cases hgj : g ks[j] = true
    · rw [if_pos hgj] at hsu
      have hlen : (sel ks vs g (j + 1)).length = (sel ks vs g j).length + 1 := by rw [hsu, List.length_append]; rfl
      have ha1 : (((sel ks vs g j).map (·.1)).map encS).take (sel ks vs g j).length ++ [[.v (.string ks[j])]] = ((sel ks vs g (j + 1)).map (·.1)).map encS := by
        rw [List.take_of_length_le (by omega), hsu, List.map_append, List.map_append]; rfl
      have ha2 : (encVs ((sel ks vs g j).map (·.2))).take (sel ks vs g j).length ++ [encV vs[j]] = encVs ((sel ks vs g (j + 1)).map (·.2)) := by
        rw [List.take_of_length_le (by omega), hsu, List.map_append, encVs_eq, encVs_eq, List.map_append]; rfl
      refine Q.rg <| Q.bi rfl rfl rfl <| Q.nt <| S.sq <| S.cT rfl (decide_eq_true (by omega)) <| UW.skip <| UQ.then <| S.sq <| UW.block <| Q.rg <| Q.mv rfl <| Q.as rfl <| Q.nt <| Q.rg <| Q.mv rfl <| Q.fa f26_3 rfl <| Q.lc 4 ty23 rfl rfl rfl <| Q.mv rfl <| S.qu (Z.ia sl23 rfl rfl (by omega) (by assumption) (by rfl)) <| ?_
      refine S.qu (Z.lpc ty9 rfl) <| S.qu (Z.calld rfl rfl (fun hd => hmk _ (ext_sub hd))) <| Q.nt <| S.cT rfl (by assumption) <| ?_
      refine S.sq <| ?_
      refine' UW.draw' (by kernel_rfl) [0, 1, 0, 4, 0, 28, 60, 124, 255, 511, 1023] [some 25, some 26, some 27, some 28, some 29, some 30, some 31, some 32, none, none, none] [some (25, _), some (26, _), some (27, _), some (28, _), some (29, _), some (30, _), some (31, _), some (32, _), none, none, none] [8, 9, 10] [1, 3, 6] rfl (by decide) (by decide) (QAll.free (by decide) rfl rfl ?q1x0_0 (QAll.held (by decide) rfl rfl ?q1x0_1 (QAll.free (by decide) rfl rfl ?q1x0_2 (QAll.held (by decide) rfl rfl ?q1x0_3 (QAll.free (by decide) rfl rfl ?q1x0_4 (QAll.free (by decide) rfl rfl ?q1x0_5 (QAll.held (by decide) rfl rfl ?q1x0_6 (QAll.free (by decide) rfl rfl ?q1x0_7 (QAll.skip (QAll.skip (QAll.skip QAll.nil))))))))))) ?q1x0_k
      case q1x0_0 => (intro _; exact Z.fa f26_3 rfl)
      case q1x0_1 => exact Z.ldc 2 ty23 rfl rfl rfl
      case q1x0_2 => (intro _; exact Z.fa f26_3 rfl)
      case q1x0_3 => exact Z.ldc 4 ty23 rfl rfl rfl
      case q1x0_4 => (intro _; exact Z.mv rfl)
      case q1x0_5 => (intro _; exact Z.ia sl23 rfl rfl (by omega) (by assumption) (by rfl))
      case q1x0_6 => exact Z.lpc ty9 rfl
      case q1x0_7 => (intro _; exact Z.bl row23 rfl rfl (lit_ok rfl))
      refine CH.cons rfl rfl (by decide) <| D.apl 1 (sel ks vs g (j + 1)).length row23 rfl rfl (by omega) rfl (.sl (lit_sz rfl)) (by first | omega | (simp; omega)) ha1 hlen.symm fun p33 => ?_
      refine CH.cons rfl rfl (by decide) <| D.qu (Z.fa f26_3 rfl) <| CH.cons0 rfl rfl <| D.st 2 ty23 rfl rfl rfl rfl rfl rfl rfl rfl fun _ => CH.nil <| ?_
      simp only [app, finL]
      refine UQ.then <| ?_
      refine' UW.draw' (by kernel_rfl) [0, 1, 0, 4, 0, 28, 60, 124, 252, 511, 1023, 2047] [some 35, some 36, some 37, some 38, some 39, some 40, some 41, some 42, some 43, none, none, none] [some (35, _), some (36, _), some (37, _), some (38, _), some (39, _), some (40, _), some (41, _), some (42, _), some (43, _), none, none, none] [9, 10, 11] [1, 3, 6] rfl (by decide) (by decide) (QAll.free (by decide) rfl rfl ?q1x1_0 (QAll.held (by decide) rfl rfl ?q1x1_1 (QAll.free (by decide) rfl rfl ?q1x1_2 (QAll.held (by decide) rfl rfl ?q1x1_3 (QAll.free (by decide) rfl rfl ?q1x1_4 (QAll.free (by decide) rfl rfl ?q1x1_5 (QAll.held (by decide) rfl rfl ?q1x1_6 (QAll.free (by decide) rfl rfl ?q1x1_7 (QAll.free (by decide) rfl rfl ?q1x1_8 (QAll.skip (QAll.skip (QAll.skip QAll.nil)))))))))))) ?q1x1_k
      case q1x1_0 => (intro _; exact Z.fa f26_4 rfl)
      case q1x1_1 => exact Z.ldc 2 ty24 rfl rfl rfl
      case q1x1_2 => (intro _; exact Z.fa f26_4 rfl)
      case q1x1_3 => exact Z.ldc 4 ty24 rfl rfl rfl
      case q1x1_4 => (intro _; exact Z.mv rfl)
      case q1x1_5 => (intro _; exact Z.ia sl24 rfl rfl (by omega) (by assumption) (by exact encV_len _))
      case q1x1_6 => exact Z.lpa ty26 rfl (encV_len _)
      case q1x1_7 => (intro _; exact Z.call rfl rfl (fun H => hcp H))
      case q1x1_8 => (intro _; exact Z.bl row24 rfl rfl (by intro cs h; cases List.mem_singleton.1 h; exact ⟨by first | rfl | exact encV_cell _, by first | rfl | exact encV_len _⟩))
      refine CH.cons rfl rfl (by decide) <| D.apl 1 (sel ks vs g (j + 1)).length row24 rfl rfl (by omega) rfl (.sl (by intro cs h; cases List.mem_singleton.1 h; exact encV_len _)) (by first | omega | (simp; omega)) ha2 hlen.symm fun p44 => ?_
      refine CH.cons rfl rfl (by decide) <| D.qu (Z.fa f26_4 rfl) <| CH.cons0 rfl rfl <| D.st 2 ty24 rfl rfl rfl rfl rfl rfl rfl rfl fun _ => CH.nil <| ?_
      simp only [app, finL]
      refine UQ.blockN <| UQ.then <| S.rg <| S.qu (Z.add (r := ((j + 1 : Nat) : Int)) rfl rfl (IntWalk.i64_in _ (by omega))) <| Q.mv rfl <| US.nil <| ?_
      refine S.back (j + 1, p33, p44) ⟨rfl, rfl, rfl, rfl, rfl, rfl, trivial⟩ (.refl _) (by omega) (by omega)
    · rw [if_neg hgj, List.append_nil] at hsu
      rw [← hsu]
      refine Q.rg <| Q.bi rfl rfl rfl <| Q.nt <| S.sq <| S.cT rfl (decide_eq_true (by omega)) <| UW.skip <| UQ.then <| S.sq <| UW.block <| Q.rg <| Q.mv rfl <| Q.as rfl <| Q.nt <| Q.rg <| Q.mv rfl <| Q.fa f26_3 rfl <| Q.lc 4 ty23 rfl rfl rfl <| Q.mv rfl <| S.qu (Z.ia sl23 rfl rfl (by omega) (by assumption) (by rfl)) <| ?_
      refine S.qu (Z.lpc ty9 rfl) <| S.qu (Z.calld rfl rfl (fun hd => hmk _ (ext_sub hd))) <| Q.nt <| ?_
      refine S.cB rfl (fun hc24 => ?_) (fun hc24 => ?_)
      contradiction
      refine UW.skip <| UQ.blockN <| UQ.then <| S.rg <| S.qu (Z.add (r := ((j + 1 : Nat) : Int)) rfl rfl (IntWalk.i64_in _ (by omega))) <| Q.mv rfl <| US.nil <| ?_
      refine S.back (j + 1, r1, r2) ⟨rfl, rfl, rfl, rfl, rfl, rfl, trivial⟩ (.refl _) (by omega) (by omega)
  · have hjm : j = min ks.length vs.length := by omega
    subst hjm
    have e1 : (pickV (.mk k n t ks vs) g).ks.length = (sel ks vs g (min ks.length vs.length)).length := List.length_map ..
    have e2 : (pickV (.mk k n t ks vs) g).vs.length = (sel ks vs g (min ks.length vs.length)).length := List.length_map ..
    refine Q.rg <| Q.bi rfl rfl rfl <| Q.nt <| S.sq <| S.cF rfl (decide_eq_false (by omega)) <| UW.exit <| UQ.pass <| UQ.pass <| UQ.here <| UQ.then <| Q.rg <| S.qu (Z.ldw 2 ty26 rfl rfl rfl) <| S.s <| D.st 3 ty26 rfl rfl rfl rfl rfl rfl rfl rfl fun _ => Q.nt <| UW.ret <| ?_
    exact retR [_, _] (fun hd => res_cell (k := 3) hd rfl rfl rfl st26 sz26) (.cons_cons _ (.cons_cons _ (List.nil_sublist _))) fun hd => ⟨_, hd, rfl, r1, r2, _, _, by rw [e1, e2]; rfl, rfl, by rw [e1, h1l]; exact Nat.le_refl _, by rw [e1, ← h1l, List.take_length]; rfl, by rw [e2, h2l]; exact Nat.le_refl _, by rw [e2, ← h2l, List.take_length]; rfl⟩
theorem pick_spec (x : V) (hx : Fits x) (f : Nat) (caps : List AV) (g : ByteArray → Bool) (H : Hp) (hmay : ∀ k ∈ x.ks, ∀ H', Sub H H' → ACall Tryz.prog f ([.v (.string k)] ++ caps) H' (IsR H' (.v (.bool (g k))))) : ACall Tryz.prog 47 [.agg (encV x), .clo f caps] H (IsR H (.agg (encV (pickV x g)))) := ownV_pure (pick_own x hx f caps g H hmay)
theorem pick_fits {x : V} (hx : Fits x) (g : ByteArray → Bool) : Fits (pickV x g) := by
  cases hx with
  | mk k n t ks vs h1 h2 h3 =>
    have hsl := sel_len ks vs g (min ks.length vs.length)
    refine .mk _ _ _ _ _ (by show (List.map _ (sel ks vs g (min ks.length vs.length))).length ≤ _; rw [List.length_map]; omega) (by show (List.map _ (sel ks vs g (min ks.length vs.length))).length ≤ _; rw [List.length_map]; omega) fun y hy => ?_
    obtain ⟨p, hp, rfl⟩ := List.mem_map.1 hy
    exact h3 _ (List.of_mem_zip (List.mem_of_mem_take (List.mem_filter.1 hp).1)).2
def typeB : ByteArray := ⟨#[116, 121, 112, 101]⟩
def contentB : ByteArray := ⟨#[99, 111, 110, 116, 101, 110, 116]⟩
def redO (x : V) : V := pickV x (hasB fieldL)
def redC (x : V) : V := (getV (redO x) contentB).1
def redP (x : V) : V := if x.k = 5 then (if (redC x).k = 5 then withV (redO x) contentB (pickV (redC x) (keptB (getV x typeB).1.t)) else redO x) else zeroV
theorem red1_spec (key : ByteArray) (p : Nat) (H : Hp) (hp : H p = some (.box 23 [strs fieldL])) : ACall Tryz.prog 48 [.v (.string key), .ptr p 0] H (IsR H (.v (.bool (hasB fieldL key)))) := by
  refine UCall (n := 7) (H0 := H) (objs := []) Tryz.func48 (by kernel_rfl) rfl (by rw [Tryz.ntmps48]; rfl) .nil <| ?_
  refine Q.rg <| Q.as rfl <| Q.nt <| Q.rg <| S.qu (Z.ldo (by assumption) ty23 rfl rfl) <| ?_
  refine Q.mv rfl <| S.qu (Z.call rfl rfl (fun H => contains_spec fieldL key (by decide) H)) <| Q.as rfl <| Q.nt <| UW.ret <| S.rtR (fun _ => res_tmp rfl rfl) <| ?_
  rfl
theorem red2_spec (key : ByteArray) (p : Nat) (y : V) (H : Hp) (hG : Glob H) (hp : H p = some (.box 26 (encV y))) : ACall Tryz.prog 50 [.v (.string key), .ptr p 0] H (IsR H (.v (.bool (keptB y.t key)))) := by
  obtain ⟨k, n, t, ks, vs⟩ := y
  refine UCall (n := 8) (H0 := H) (objs := []) Tryz.func50 (by kernel_rfl) rfl (by rw [Tryz.ntmps50]; rfl) .nil <| ?_
  refine Q.rg <| Q.as rfl <| Q.nt <| Q.rg <| Q.fa f26_2 rfl <| S.qu (Z.ldo (by assumption) ty9 rfl rfl) <| ?_
  refine Q.mv rfl <| S.qu (Z.callg rfl rfl (fun _ hS => kept_spec t key _ (hG.mono hS))) <| Q.as rfl <| Q.nt <| UW.ret <| S.rtR (fun _ => res_tmp rfl rfl) <| ?_
  rfl
theorem get_fits {x : V} (hx : Fits x) (s : ByteArray) : Fits (getV x s).1 := by
  unfold getV
  split
  · rename_i i hp
    cases hx with
    | mk k n t ks vs h1 h2 h3 =>
      have hi : i < vs.length := by
        unfold pl at hp
        split at hp
        · split at hp
          · split at hp
            · rename_i h; cases hp; exact h
            · cases hp
          · cases hp
        · cases hp
      exact h3 _ (getD_mem hi)
  · exact fits_zero
theorem redact_spec (x : V) (hx : Fits x) (H : Hp) (hG : Glob H) : ACall Tryz.prog 21 [.agg (encV x)] H (IsR H (.agg (encV (redP x)))) := by
  have ho : Fits (redO x) := pick_fits hx _
  have hc : Fits (redC x) := get_fits ho _
  have hpk : Fits (pickV (redC x) (keptB (getV x typeB).1.t)) := pick_fits hc _
  by_cases hk : x.k = 5
  · have hred : redP x = if (redC x).k = 5 then withV (redO x) contentB (pickV (redC x) (keptB (getV x typeB).1.t)) else redO x := by unfold redP; rw [if_pos hk]
    have hg1 : ∀ H, ACall Tryz.prog 38 [.agg (encV x), .v (.string typeB)] H (IsR H (.tup [.agg (encV (getV x typeB).1), .v (.bool (getV x typeB).2)])) := fun H => get_spec x hx typeB H
    have hg2 : ∀ H, ACall Tryz.prog 38 [.agg (encV (redO x)), .v (.string contentB)] H (IsR H (.tup [.agg (encV (redC x)), .v (.bool (getV (redO x) contentB).2)])) := fun H => get_spec (redO x) ho contentB H
    have hpick1 : ∀ p H, H p = some (.box 23 [strs fieldL]) → ACall Tryz.prog 47 [.agg (encV x), .clo 48 [.ptr p 0]] H (IsR H (.agg (encV (redO x)))) := fun p H h => pick_spec x hx _ _ _ H (fun k _ H' hs => red1_spec k p H' (hs _ _ h))
    have hpick2 : ∀ p H, Glob H → H p = some (.box 26 (encV (getV x typeB).1)) → ACall Tryz.prog 47 [.agg (encV (redC x)), .clo 50 [.ptr p 0]] H (IsR H (.agg (encV (pickV (redC x) (keptB (getV x typeB).1.t))))) := fun p H h1 h => pick_spec (redC x) hc _ _ _ H (fun k _ H' hs => red2_spec k p _ H' (h1.mono hs) (hs _ _ h))
    have hwith : ∀ H, ACall Tryz.prog 30 [.agg (encV (redO x)), .v (.string contentB), .agg (encV (pickV (redC x) (keptB (getV x typeB).1.t)))] H (IsR H (.agg (encV (withV (redO x) contentB (pickV (redC x) (keptB (getV x typeB).1.t)))))) := fun H => with_spec (redO x) ho contentB _ hpk H
    rw [hred]
    clear hred
    generalize redO x = o at *
    generalize redC x = c at *
    generalize pickV c (keptB (getV x typeB).1.t) = pc at *
    generalize (getV x typeB).1 = kd at *
    generalize (getV x typeB).2 = kb at *
    generalize (getV o contentB).2 = cb at *
    obtain ⟨k, n, t, ks, vs⟩ := x
    obtain ⟨ck, cn, ct, cks, cvs⟩ := c
    have hk' : k = 5 := hk
    subst hk'
    refine UCall (n := 36) (H0 := H) (objs := []) Tryz.func21 (by kernel_rfl) rfl (by rw [Tryz.ntmps21]; rfl) .nil <| ?_
    refine Q.rg <| S.dd <| D.box rfl rfl rfl fun p1 => S.dd <| D.al z26 rfl rfl rfl fun p2 => Q.nt <| S.sq <| Q.rg <| Q.fa f26_0 rfl <| Q.lc 1 ty3 rfl rfl rfl <| Q.bi rfl rfl rfl <| Q.nt <| S.cF rfl (bne_f (by omega)) <| UW.skip <| UQ.then <| Q.rg <| S.qu (Z.callg rfl rfl ( fun _ hS => fields_spec fieldT fieldL (by decide) (by decide) field_fields (by decide) _ (hG.mono hS))) <| S.dd <| D.al z23 rfl rfl rfl fun p3 => S.s <| D.st 0 ty23 rfl rfl rfl rfl rfl rfl rfl rfl fun _ => Q.nt <| Q.rg <| S.qu (Z.ldw 2 ty26 rfl rfl rfl) <| S.qu (Z.mf rfl) <| S.qu (Z.calld rfl rfl (fun hd => hpick1 p3 _ (hd.at_ (k := 0) rfl))) <| S.dd <| D.al z26 rfl rfl rfl fun p4 => S.s <| D.stw 0 ty26 rfl rfl rfl rfl (by exact encV_cell _) (encV_len _) rfl rfl fun _ => ?_
    refine Q.nt <| Q.rg <| S.qu (Z.ldw 3 ty26 rfl rfl rfl) <| S.qu (Z.call rfl rfl (fun H => hg1 H)) <| Q.mv rfl <| S.qu (Z.ex rfl rfl) <| S.qu (Z.ex rfl rfl) <| S.dd <| D.al z26 rfl rfl rfl fun p5 => S.s <| D.stw 0 ty26 rfl rfl rfl rfl (by exact encV_cell _) (encV_len _) rfl rfl fun _ => ?_
    refine Q.as rfl <| Q.nt <| S.sq <| Q.rg <| S.qu (Z.ldw 1 ty26 rfl rfl (encV_len _)) <| S.qu (Z.call rfl rfl (fun H => hg2 H)) <| Q.mv rfl <| S.qu (Z.ex rfl rfl) <| S.qu (Z.ex rfl rfl) <| S.dd <| D.al z26 rfl rfl rfl fun p7 => S.s <| D.st 0 ty26 rfl rfl rfl rfl rfl rfl rfl rfl fun _ => Q.as rfl <| Q.nt <| Q.rg <| Q.fa f26_0 rfl <| Q.lc 0 ty3 rfl rfl rfl <| Q.bi rfl rfl rfl <| Q.nt <| ?_
    refine S.cE rfl (fun hc29 => ?_) (fun hc29 => ?_)
    refine' UW.drawk2 (by kernel_rfl) [0] [0, 0, 0, 6, 15, 31] [none, some 31, some 32, none, none, none] [none, some (31, _), some (32, _), none, none, none] [0, 3, 4, 5] [3, 0, 4, 5] [] rfl (by decide) (by decide) (by decide) (by decide) (QAll.skip (QAll.kept (by decide) rfl rfl ?q6x0_1 (QAll.free (by decide) rfl rfl ?q6x0_2 (QAll.skip (QAll.skip (QAll.skip QAll.nil)))))) ?q6x0_k ?q6x0_k2
    case q6x0_1 => (intro _ hK; exact Z.kw 0 hK ty26 rfl rfl rfl)
    case q6x0_2 => (intro _; exact Z.mf rfl)
    refine CH.cons rfl rfl (by decide) ?_ (.c 0 rfl .n)
    refine D.qu (Z.ldw 2 ty26 rfl rfl (encV_len _)) <| ?_
    refine CH.cons rfl rfl (by decide) ?_ (.c 0 rfl .n)
    refine D.qu (Z.calld rfl rfl (fun hd => hpick2 p5 _ (hG.ext hd) (hd.at_ (k := 1) rfl))) <| ?_
    refine CH.cons rfl rfl (by decide) ?_ (.c 0 rfl .n)
    refine D.qu (Z.call rfl rfl (fun H => hwith H)) <| ?_
    refine CH.cons0 rfl rfl ?_ (.c 0 rfl .n)
    refine D.stw 2 ty26 rfl rfl rfl rfl (by exact encV_cell _) (encV_len _) (encV_len _) rfl fun _ => ?_
    refine CH.nil ?_ (.c 0 rfl .n)
    simp only [app, finL]
    refine UQ.then <| Q.rg <| S.qu (Z.ldw 2 ty26 rfl rfl (encV_len _)) <| S.s <| D.stw 4 ty26 rfl rfl rfl rfl (by exact encV_cell _) (encV_len _) rfl rfl fun _ => ?_
    refine Q.nt <| UW.ret <| S.rtR (fun hd => res_cell (k := 4) hd rfl rfl rfl st26 (by rw [encV_len]; exact sz26)) <| ?_
    focus ((split <;> first | rfl | (exact absurd hc29 (by assumption)) | (exact absurd (by assumption) hc29)); done)
    refine CH.cons rfl rfl (by decide) ?_ (.c 0 rfl .n)
    refine D.qu (Z.calld rfl rfl (fun hd => hpick2 p5 _ (hG.ext hd) (hd.at_ (k := 1) rfl))) <| ?_
    refine CH.cons rfl rfl (by decide) ?_ (.c 0 rfl .n)
    refine D.qu (Z.ldw 2 ty26 rfl rfl (encV_len _)) <| ?_
    refine CH.cons rfl rfl (by decide) ?_ (.c 0 rfl .n)
    refine D.qu (Z.call rfl rfl (fun H => hwith H)) <| ?_
    refine CH.cons0 rfl rfl ?_ (.c 0 rfl .n)
    refine D.stw 2 ty26 rfl rfl rfl rfl (by exact encV_cell _) (encV_len _) (encV_len _) rfl fun _ => ?_
    refine CH.nil ?_ (.c 0 rfl .n)
    simp only [app, finL]
    refine UQ.swap <| UQ.then <| Q.rg <| S.qu (Z.ldw 2 ty26 rfl rfl (encV_len _)) <| S.s <| D.stw 4 ty26 rfl rfl rfl rfl (by exact encV_cell _) (encV_len _) rfl rfl fun _ => ?_
    refine Q.nt <| UW.ret <| S.rtR (fun hd => res_cell (k := 4) hd rfl rfl rfl st26 (by rw [encV_len]; exact sz26)) <| ?_
    focus ((split <;> first | rfl | (exact absurd hc29 (by assumption)) | (exact absurd (by assumption) hc29)); done)
    refine UW.skip <| UQ.then <| Q.rg <| S.qu (Z.ldw 2 ty26 rfl rfl (encV_len _)) <| S.s <| D.stw 4 ty26 rfl rfl rfl rfl (by exact encV_cell _) (encV_len _) rfl rfl fun _ => ?_
    refine Q.nt <| UW.ret <| S.rtR (fun hd => res_cell (k := 4) hd rfl rfl rfl st26 (by rw [encV_len]; exact sz26)) <| ?_
    focus ((split <;> first | rfl | (exact absurd hc29 (by assumption)) | (exact absurd (by assumption) hc29)); done)
  · have hred : redP x = zeroV := by unfold redP; rw [if_neg hk]
    rw [hred]
    obtain ⟨k, n, t, ks, vs⟩ := x
    have hk' : ¬ k = 5 := hk
    refine UCall (n := 36) (H0 := H) (objs := []) Tryz.func21 (by kernel_rfl) rfl (by rw [Tryz.ntmps21]; rfl) .nil <| ?_
    refine Q.rg <| S.dd <| D.box rfl rfl rfl fun p1 => S.dd <| D.al z26 rfl rfl rfl fun p2 => Q.nt <| S.sq <| Q.rg <| Q.fa f26_0 rfl <| Q.lc 1 ty3 rfl rfl rfl <| Q.bi rfl rfl rfl <| Q.nt <| S.cT rfl (bne_t (by omega)) <| Q.rg <| S.qu (Z.bd [] bt26 rfl rfl rfl rfl rfl rfl) <| S.s <| D.st 0 ty26 rfl rfl rfl rfl rfl rfl rfl rfl fun _ => Q.nt <| UW.ret <| UQ.passR <| S.rtR (fun hd => res_cell (k := 0) hd rfl rfl rfl st26 sz26) <| ?_
    rfl
end Go.Proofs.YtgmfgmbgmjbdhaaGreatDoor
end
section
namespace Go.Proofs.YtgmfgmbgmjbdhaaGreatDoor
open Go Go.RowKit Go.Eng
set_option linter.unusedSimpArgs false
set_option linter.unusedVariables false
set_option maxRecDepth 100000
theorem insAtPos_is (ks : List ByteArray) (key : ByteArray) : (∀ j (h : j < ks.length), j < insAtPos ks key → lessB ks[j] key = true) ∧ (∀ h : insAtPos ks key < ks.length, lessB ks[insAtPos ks key] key = false) := by
  cases h : ks.findIdx? (fun k => !(lessB k key)) with
  | none =>
    have e : insAtPos ks key = ks.length := by unfold insAtPos insPos; rw [h]; rfl
    rw [e]
    rw [List.findIdx?_eq_none_iff] at h
    refine ⟨fun j hj _ => ?_, fun h => absurd h (by omega)⟩
    have := h _ (List.getElem_mem hj)
    simpa using this
  | some i =>
    have e : insAtPos ks key = i := by
      unfold insAtPos insPos; rw [h]
      show (if (i : Int) < 0 then _ else (i : Int).toNat) = i
      rw [if_neg (by omega)]; rfl
    obtain ⟨h1, h2, h3⟩ := List.findIdx?_eq_some_iff_getElem.1 h
    refine ⟨fun j hj hji => ?_, fun h => ?_⟩
    · have := h3 j (by omega)
      simpa using this
    · simp only [e]
      simpa using h2
theorem insAt_getD {α : Type} (l : List α) (p : Nat) (x z : α) (hp : p ≤ l.length) (k : Nat) : (insAt l p x).getD k z = if k < p then l.getD k z else if k = p then x else l.getD (k - 1) z := by
  unfold insAt
  simp only [List.getD]
  by_cases h1 : k < p
  · rw [if_pos h1, List.getElem?_append_left (by rw [List.length_take]; omega), List.getElem?_take, if_pos h1]
  · rw [if_neg h1, List.getElem?_append_right (by rw [List.length_take]; omega), List.length_take, Nat.min_eq_left hp]
    by_cases h2 : k = p
    · rw [if_pos h2, h2, Nat.sub_self]; rfl
    · rw [if_neg h2]
      obtain ⟨d, rfl⟩ : ∃ d, k = p + 1 + d := ⟨k - p - 1, by omega⟩
      rw [show p + 1 + d - p = d + 1 from by omega, List.getElem?_cons_succ, List.getElem?_drop, show p + 1 + d - 1 = p + d from by omega]
theorem asc_D {ks : List ByteArray} (h : Asc ks) {i j : Nat} (hij : i < j) (hj : j < ks.length) : lessB (ks.getD i ⟨#[]⟩) (ks.getD j ⟨#[]⟩) = true := by
  rw [getD_at (by omega), getD_at hj]; exact h i j (by omega) hj hij
theorem asc_ins {ks : List ByteArray} (h : Asc ks) {key : ByteArray} (hn : key ∉ ks) : Asc (insAt ks (insAtPos ks key) key) := by
  obtain ⟨p1, p2⟩ := insAtPos_is ks key
  have hp := insAtPos_le ks key
  generalize insAtPos ks key = p at *
  have hlen := insAt_len ks p key hp
  have up : ∀ m, p ≤ m → m < ks.length → lessB key (ks.getD m ⟨#[]⟩) = true := fun m h1 h2 => by
    have h3 : lessB key (ks[p]'(by omega)) = true := less_tri (p2 (by omega)) (fun e => hn (e ▸ List.getElem_mem _))
    by_cases e : m = p
    · subst e; rw [getD_at h2]; exact h3
    · rw [getD_at h2]; exact less_trans h3 (h p m (by omega) h2 (by omega))
  intro i j hi hj hij
  rw [← getD_at (z := ⟨#[]⟩) hi, ← getD_at (z := ⟨#[]⟩) hj, insAt_getD _ _ _ _ hp, insAt_getD _ _ _ _ hp]
  by_cases a1 : i < p
  · rw [if_pos a1]
    by_cases b1 : j < p
    · rw [if_pos b1]; exact asc_D h hij (by omega)
    · rw [if_neg b1]
      by_cases b2 : j = p
      · rw [if_pos b2, getD_at (by omega)]; exact p1 i _ a1
      · rw [if_neg b2]; exact asc_D h (by omega) (by omega)
  · rw [if_neg a1, if_neg (by omega : ¬ j < p), if_neg (by omega : ¬ j = p)]
    by_cases a2 : i = p
    · rw [if_pos a2]; exact up _ (by omega) (by omega)
    · rw [if_neg a2]; exact asc_D h (by omega) (by omega)
theorem cut_ins {α : Type} (l : List α) (p : Nat) (x : α) (hp : p ≤ l.length) : cutAt (insAt l p x) p = l := by
  unfold cutAt insAt
  rw [List.take_append_of_le_length (by rw [List.length_take]; omega), List.take_take, Nat.min_self, List.drop_append, List.length_take, Nat.min_eq_left hp, List.drop_eq_nil_of_le (by rw [List.length_take]; omega), show p + 1 - p = 1 from by omega]
  simp
theorem cut_set {α : Type} (l : List α) (i : Nat) (x : α) : cutAt (l.set i x) i = cutAt l i := by
  unfold cutAt
  rw [List.take_set_of_le (Nat.le_refl _), List.drop_set_of_lt (by omega)]
theorem asc_cut {ks : List ByteArray} (h : Asc ks) (i : Nat) : Asc (cutAt ks i) ∧ ∀ s ∈ cutAt ks i, s ∈ ks := by
  have hm : ∀ s ∈ cutAt ks i, s ∈ ks := fun s hs => by
    unfold cutAt at hs
    rcases List.mem_append.1 hs with h | h
    · exact List.mem_of_mem_take h
    · exact List.mem_of_mem_drop h
  refine ⟨fun a b ha hb hab => ?_, hm⟩
  by_cases hi : i < ks.length
  · have hl := cutAt_len hi
    have e : ∀ k (hk : k < (cutAt ks i).length), (cutAt ks i)[k] = ks.getD (if k < i then k else k + 1) ⟨#[]⟩ := fun k hk => by
      rw [← getD_at (z := ⟨#[]⟩) hk]
      unfold cutAt
      simp only [List.getD]
      by_cases h1 : k < i
      · rw [if_pos h1, List.getElem?_append_left (by rw [List.length_take]; omega), List.getElem?_take, if_pos h1]
      · rw [if_neg h1, List.getElem?_append_right (by rw [List.length_take]; omega), List.length_take, Nat.min_eq_left (by omega), List.getElem?_drop, show i + 1 + (k - i) = k + 1 from by omega]
    rw [e a ha, e b hb]
    refine asc_D h ?_ ?_
    · split <;> split <;> omega
    · split <;> omega
  · have e : cutAt ks i = ks := by unfold cutAt; rw [List.take_of_length_le (by omega), List.drop_eq_nil_of_le (by omega), List.append_nil]
    simp only [e] at ha hb ⊢
    exact h a b ha hb hab
theorem not_in_cut {ks : List ByteArray} (h : Asc ks) {i : Nat} (hi : i < ks.length) : ks[i] ∉ cutAt ks i := fun hm => by
  unfold cutAt at hm
  rcases List.mem_append.1 hm with h1 | h1
  · obtain ⟨j, hj, e⟩ := List.getElem_of_mem h1
    rw [List.length_take] at hj
    rw [List.getElem_take] at e
    have := asc_ne h (by omega) hi e; omega
  · obtain ⟨j, hj, e⟩ := List.getElem_of_mem h1
    rw [List.length_drop] at hj
    rw [List.getElem_drop] at e
    have := asc_ne h (by omega) hi e; omega
end Go.Proofs.YtgmfgmbgmjbdhaaGreatDoor
end
section
namespace Go.Proofs.YtgmfgmbgmjbdhaaGreatDoor
open Go Go.RowKit Go.Eng
set_option linter.unusedSimpArgs false
set_option linter.unusedVariables false
set_option maxRecDepth 100000
section
variable {n : Int} {t : ByteArray} {ks : List ByteArray} {vs : List V}
theorem pl_five (hl : ks.length = vs.length) (key : ByteArray) : pl (.mk 5 n t ks vs) key = keyIdx ks key := by
  unfold pl
  rw [vk, if_pos rfl, vks, vvs]
  cases h : keyIdx ks key with
  | none => rfl
  | some i =>
    have := keyIdx_lt h
    simp only
    rw [if_pos (by omega)]
theorem cut_five (hl : ks.length = vs.length) : cutV (.mk 5 n t ks vs) = .mk 5 n t ks vs := by
  rw [cutV_eq]
  simp only [vk, vn, vt, vks, vvs]
  rw [hl, Nat.min_self, ← hl, List.take_length, hl, List.take_length]
theorem with_some (hl : ks.length = vs.length) {key : ByteArray} {i : Nat} (h : keyIdx ks key = some i) (y : V) : withV (.mk 5 n t ks vs) key y = .mk 5 n t ks (vs.set i y) := by
  have e : objV (.mk 5 n t ks vs) = .mk 5 n t ks vs := rfl
  unfold withV
  rw [e, pl_five hl, h, cut_five hl]
  rfl
theorem with_none (hl : ks.length = vs.length) {key : ByteArray} (h : keyIdx ks key = none) (y : V) : withV (.mk 5 n t ks vs) key y = .mk 5 n t (insAt ks (insAtPos ks key) key) (insAt vs (insAtPos ks key) y) := by
  have e : objV (.mk 5 n t ks vs) = .mk 5 n t ks vs := rfl
  unfold withV
  rw [e, pl_five hl, h, cut_five hl]
  rfl
theorem get_some (hl : ks.length = vs.length) {key : ByteArray} {i : Nat} (h : keyIdx ks key = some i) : getV (.mk 5 n t ks vs) key = (vs.getD i zeroV, true) := by
  unfold getV; rw [pl_five hl, h]; rfl
theorem get_none (hl : ks.length = vs.length) {key : ByteArray} (h : keyIdx ks key = none) : getV (.mk 5 n t ks vs) key = (zeroV, false) := by
  unfold getV; rw [pl_five hl, h]
theorem wo_some (hl : ks.length = vs.length) {key : ByteArray} {i : Nat} (h : keyIdx ks key = some i) : withoutV (.mk 5 n t ks vs) key = .mk 5 n t (cutAt ks i) (cutAt vs i) := by
  unfold withoutV; rw [pl_five hl, h, cut_five hl]; rfl
theorem wo_none (hl : ks.length = vs.length) {key : ByteArray} (h : keyIdx ks key = none) : withoutV (.mk 5 n t ks vs) key = .mk 5 n t ks vs := by
  unfold withoutV; rw [pl_five hl, h]
theorem key_at {key : ByteArray} {i : Nat} (h : keyIdx ks key = some i) (hi : i < ks.length) : ks[i] = key := by
  have := keyIdx_eq h
  rw [List.getElem?_eq_getElem hi] at this
  exact Option.some.inj this
theorem key_ins (ha : Asc ks) {key : ByteArray} (h : keyIdx ks key = none) : keyIdx (insAt ks (insAtPos ks key) key) key = some (insAtPos ks key) := by
  have hp := insAtPos_le ks key
  have hlen := insAt_len ks (insAtPos ks key) key hp
  have hi : insAtPos ks key < (insAt ks (insAtPos ks key) key).length := by omega
  have e : (insAt ks (insAtPos ks key) key)[insAtPos ks key] = key := by
    rw [← getD_at (z := ⟨#[]⟩) hi, insAt_getD _ _ _ _ hp, if_neg (by omega), if_pos rfl]
  have := keyIdx_asc (asc_ins ha (keyIdx_not h)) hi
  rw [e] at this; exact this
/-- What is put in is there. -/
theorem get_with (hl : ks.length = vs.length) (ha : Asc ks) (key : ByteArray) (y : V) : getV (withV (.mk 5 n t ks vs) key y) key = (y, true) := by
  cases h : keyIdx ks key with
  | some i =>
    have hi := keyIdx_lt h
    rw [with_some hl h, get_some (by rw [List.length_set]; exact hl) h, getD_at (by rw [List.length_set]; omega), List.getElem_set_self]
  | none =>
    have hp := insAtPos_le ks key
    rw [with_none hl h, get_some (by rw [insAt_len _ _ _ hp, insAt_len _ _ _ (by omega)]; omega) (key_ins ha h), insAt_getD _ _ _ _ (by omega), if_neg (by omega), if_pos rfl]
/-- All else stays. -/
theorem get_other (hl : ks.length = vs.length) (ha : Asc ks) (key other : ByteArray) (hne : other ≠ key) (y : V) : getV (withV (.mk 5 n t ks vs) key y) other = getV (.mk 5 n t ks vs) other := by
  cases h : keyIdx ks key with
  | some i =>
    have hi := keyIdx_lt h
    rw [with_some hl h]
    cases ho : keyIdx ks other with
    | none => rw [get_none (by rw [List.length_set]; exact hl) ho, get_none hl ho]
    | some j =>
      have hj := keyIdx_lt ho
      have hij : i ≠ j := fun e => by
        subst e
        exact hne ((key_at ho hj).symm.trans (key_at h hi))
      rw [get_some (by rw [List.length_set]; exact hl) ho, get_some hl ho, getD_at (by rw [List.length_set]; omega), List.getElem_set_ne hij, getD_at (by omega)]
  | none =>
    have hp := insAtPos_le ks key
    have hl2 : (insAt ks (insAtPos ks key) key).length = (insAt vs (insAtPos ks key) y).length := by rw [insAt_len _ _ _ hp, insAt_len _ _ _ (by omega)]; omega
    have hasc := asc_ins ha (keyIdx_not h)
    rw [with_none hl h]
    cases ho : keyIdx ks other with
    | none =>
      have : keyIdx (insAt ks (insAtPos ks key) key) other = none := keyIdx_out fun hm => by
        rcases insAt_mem hm with h1 | h1
        · exact keyIdx_not ho h1
        · exact hne h1
      rw [get_none hl2 this, get_none hl ho]
    | some j =>
      have hj := keyIdx_lt ho
      have hkj := key_at ho hj
      generalize insAtPos ks key = p at *
      have hlen := insAt_len ks p key hp
      have hi : (if j < p then j else j + 1) < (insAt ks p key).length := by split <;> omega
      have e : (insAt ks p key)[if j < p then j else j + 1] = other := by
        rw [← getD_at (z := ⟨#[]⟩) hi, insAt_getD _ _ _ _ hp]
        by_cases h1 : j < p
        · rw [if_pos h1, if_pos h1, getD_at hj]; exact hkj
        · rw [if_neg h1, if_neg (by omega), if_neg (by omega), Nat.add_sub_cancel, getD_at hj]; exact hkj
      have hk := keyIdx_asc hasc hi
      rw [e] at hk
      rw [get_some hl2 hk, get_some hl ho, insAt_getD _ _ _ _ (by omega)]
      congr 1
      by_cases h1 : j < p
      · rw [if_pos h1, if_pos h1]
      · rw [if_neg h1, if_neg (by omega), if_neg (by omega), Nat.add_sub_cancel]
/-- Taken out, it is as if it had not been put in. -/
theorem wo_with (hl : ks.length = vs.length) (ha : Asc ks) (key : ByteArray) (y : V) : withoutV (withV (.mk 5 n t ks vs) key y) key = withoutV (.mk 5 n t ks vs) key := by
  cases h : keyIdx ks key with
  | some i => rw [with_some hl h, wo_some (by rw [List.length_set]; exact hl) h, wo_some hl h, cut_set]
  | none =>
    have hp := insAtPos_le ks key
    rw [with_none hl h, wo_some (by rw [insAt_len _ _ _ hp, insAt_len _ _ _ (by omega)]; omega) (key_ins ha h), wo_none hl h, cut_ins _ _ _ hp, cut_ins _ _ _ (by omega)]
/-- An object without the key: of its form. -/
theorem wo_form (hl : ks.length = vs.length) (ha : Asc ks) (key : ByteArray) : ∃ ks' vs', withoutV (.mk 5 n t ks vs) key = .mk 5 n t ks' vs' ∧ ks'.length = vs'.length ∧ Asc ks' ∧ keyIdx ks' key = none ∧ (∀ s ∈ ks', s ∈ ks) ∧ ∀ v ∈ vs', v ∈ vs := by
  cases h : keyIdx ks key with
  | some i =>
    have hi := keyIdx_lt h
    obtain ⟨h1, h2⟩ := asc_cut ha i
    refine ⟨_, _, wo_some hl h, by rw [cutAt_len hi, cutAt_len (by omega)]; omega, h1, keyIdx_out ?_, h2, fun v hv => ?_⟩
    · have := not_in_cut ha hi
      rw [key_at h hi] at this; exact this
    · unfold cutAt at hv
      rcases List.mem_append.1 hv with h | h
      · exact List.mem_of_mem_take h
      · exact List.mem_of_mem_drop h
  | none => exact ⟨_, _, wo_none hl h, hl, ha, h, fun _ h => h, fun _ h => h⟩
/-- An object with the key: of its form. -/
theorem with_form (hl : ks.length = vs.length) (ha : Asc ks) (key : ByteArray) (y : V) : ∃ ks' vs', withV (.mk 5 n t ks vs) key y = .mk 5 n t ks' vs' ∧ ks'.length = vs'.length ∧ Asc ks' ∧ (∀ s ∈ ks', s ∈ ks ∨ s = key) ∧ ∀ v ∈ vs', v ∈ vs ∨ v = y := by
  cases h : keyIdx ks key with
  | some i => exact ⟨_, _, with_some hl h y, by rw [List.length_set]; exact hl, ha, fun _ h => .inl h, fun v hv => List.mem_or_eq_of_mem_set hv⟩
  | none =>
    have hp := insAtPos_le ks key
    exact ⟨_, _, with_none hl h y, by rw [insAt_len _ _ _ hp, insAt_len _ _ _ (by omega)]; omega, asc_ins ha (keyIdx_not h), fun s hs => insAt_mem hs, fun v hv => insAt_mem hv⟩
theorem right_obj : rightV (.mk 5 n t ks vs) = true ↔ (n = 0 ∧ textOk 5 t = true ∧ keysOk ks = true ∧ ks.length = vs.length ∧ rightsV vs = true) := by
  rw [rightV_def, numberV_eq, keyedV_obj rfl, if_neg (by decide), if_neg (by decide)]
  have e : (decide ((5 : Int) < 4)) = false := by decide
  rw [e]
  simp [Bool.and_eq_true]
  constructor
  · rintro ⟨⟨⟨h1, h2, h3⟩, h4⟩, h5⟩; exact ⟨h1, h4, h2, by omega, h5⟩
  · rintro ⟨h1, h4, h2, h3, h5⟩; exact ⟨⟨⟨h1, h2, by omega⟩, h4⟩, h5⟩
end
end Go.Proofs.YtgmfgmbgmjbdhaaGreatDoor
end
