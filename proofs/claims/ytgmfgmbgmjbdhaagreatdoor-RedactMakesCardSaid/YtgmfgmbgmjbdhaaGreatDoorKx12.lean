/- The engine: rows of one's own are lent to a call that only reads. -/
import Derived.Test.YtgmfgmbgmjbdhaaGreatDoorKx11
set_option linter.unusedVariables false
namespace Go.Eng
open Go Go.RowKit
set_option linter.unusedSectionVars false
variable [Rd]
/-- No objects. -/
def nH : Hp := fun _ => none
def plainAV : AV → Bool
  | .v _ => true
  | _ => false
def plainOb : Ob → Bool
  | .box _ l => l.all plainAV
  | .row _ _ rows => rows.flatten.all plainAV
  | .iter _ _ => true
  | .rowc _ _ _ _ => false
  | .raw _ _ => true
  | .mp _ => false
/-- Whose meaning hangs on no memory. -/
def plainR : AV → Bool
  | .v _ => true
  | .agg l => l.all plainAV
  | .tup l => l.all fun u => match u with
    | .v _ => true
    | .agg l => l.all plainAV
    | _ => false
  | _ => false
section
variable {ok ok' : Nat → Prop} {ρ ρ' : Rho} {w w' : World} {u : AV} {x : Value}
theorem rep_plain (hu : plainAV u = true) (h : Rep ok ρ w u x) : Rep ok' ρ' w' u x := by
  cases u with
  | v y => rw [rep_v h]; exact .v y
  | _ => simp [plainAV] at hu
theorem rep_plain_agg {l : List AV} (hl : l.all plainAV = true) (h : Rep ok ρ w (.agg l) x) : Rep ok' ρ' w' (.agg l) x := by
  cases h with
  | agg _ vs hlen hr => exact .agg _ vs hlen fun j u y h1 h2 => rep_plain (List.all_eq_true.1 hl u (List.mem_of_getElem? h1)) (hr j u y h1 h2)
theorem rep_plainR (hu : plainR u = true) (h : Rep ok ρ w u x) : Rep ok' ρ' w' u x := by
  cases u with
  | v y => rw [rep_v h]; exact .v y
  | agg l => exact rep_plain_agg hu h
  | tup l =>
    cases h with
    | tup _ vs hlen hr =>
      refine .tup _ vs hlen fun j u y h1 h2 => ?_
      have h3 := List.all_eq_true.1 hu u (List.mem_of_getElem? h1)
      have h4 := hr j u y h1 h2
      cases u with
      | v y => rw [rep_v h4]; exact .v _
      | agg l => exact rep_plain_agg h3 h4
      | _ => simp at h3
  | _ => simp [plainR] at hu
theorem cells_plain {us : List AV} {xs : List Value} (hl : us.all plainAV = true) (h : RepCells ok ρ w us xs) : RepCells ok' ρ' w' us xs :=
  ⟨h.1, fun j u y h1 h2 => ⟨rep_plain (List.all_eq_true.1 hl u (List.mem_of_getElem? h1)) (h.2 j u y h1 h2).1, (h.2 j u y h1 h2).2⟩⟩
theorem ObRel.plain {v : Value} {ob : Ob} (hp : plainOb ob = true) (hok : ∀ g x, ob = .raw g x → ok' g) (h : ObRel ok ρ w v ob) : ObRel ok' ρ' w v ob := by
  cases ob with
  | box t l => obtain ⟨g, vals, rfl, hg, hc⟩ := h; exact ⟨g, vals, rfl, hg, cells_plain hp hc⟩
  | row e sz rows => obtain ⟨h0, inner, ho, hl, hc⟩ := h; exact ⟨h0, inner, ho, hl, cells_plain hp hc⟩
  | iter s pos => exact h
  | rowc _ _ _ _ => simp [plainOb] at hp
  | raw g x => exact ⟨h.1, hok g x rfl, h.2.2⟩
  | mp es => simp [plainOb] at hp
end
theorem ACall.borrow {P : Program} {f : Nat} {us us' : List AV} {r : AV} {H H1 : Hp} (hs : Sub H1 H) (hp : ∀ id ob, H1 id = some ob → plainOb ob = true) (hl : us'.length = us.length) (hu : ∀ (j : Nat) u u', us[j]? = some u → us'[j]? = some u' → Turns H u H1 u')
    (h : ACall P f us' H1 (IsR H1 r)) (hr : plainR r = true) : ACall P f us H (IsR H r) := by
  refine ⟨h.1, fun ρ w vals hrel hreps => ?_⟩
  have hreps1 : Reps (okOf ρ H1) ρ w us' vals := ⟨by rw [hl]; exact hreps.1, fun j u x hj hx => by
    have hlt : j < us.length := by rw [← hl]; exact (List.getElem?_eq_some_iff.1 hj).1
    exact hu j _ u (List.getElem?_eq_getElem hlt) hj ρ w x hrel (hreps.2 j _ x (List.getElem?_eq_getElem hlt) hx)⟩
  refine (h.2 ρ w vals (hrel.drop hs) hreps1).mono ?_
  rintro e w' ⟨x, ρ', u, H', rfl, h1, h2, h3, rfl, rfl⟩
  have hown : ∀ k, Own ρ' H k → Own ρ H k := by
    rintro k ⟨id, ob, v, a, b, c⟩
    obtain ⟨v0, hv0, _⟩ := hrel.ob id ob a
    rw [h2.rho id v0 hv0] at b
    cases b
    exact ⟨id, ob, _, a, hv0, c⟩
  have hext : Ext ρ H w ρ' H w' := ⟨h2.os, h2.tape, h2.output, h2.size, fun k hk hn => h2.block k hk (fun ho => hn (own_sub hs ho)), fun k ho => .inl (hown k ho), h2.rho⟩
  refine ⟨x, ρ', u, H, rfl, ⟨?_, ?_, h1.room, h1.lt⟩, hext, rep_plainR hr h3, rfl, rfl⟩
  · intro id ob hid
    obtain ⟨v0, hv0, hob⟩ := hrel.ob id ob hid
    refine ⟨v0, h2.rho id v0 hv0, ?_⟩
    cases h4 : H' id with
    | some ob' =>
      have := hs id ob' h4
      rw [hid] at this
      cases this
      obtain ⟨v1, hv1, hob1⟩ := h1.ob id ob h4
      rw [h2.rho id v0 hv0] at hv1
      cases hv1
      exact hob1.plain (hp id ob h4) (fun g x e => by
        subst e
        have hlt : g < w.heap.size := (Array.getElem?_eq_some_iff.1 hob.2.2.1).1
        exact fun ho => (hext.own g ho).elim hob.2.1 (fun h1 => by omega))
    | none =>
      refine hob.ext hext fun k hk => h2.block k (hrel.lt id v0 k hv0 hk) ?_
      rintro ⟨j, obj, vj, a, b, c⟩
      have := hrel.apart id j ob obj v0 vj k hid (hs j obj a) hv0 b hk c
      subst this
      rw [h4] at a
      cases a
  · intro id id' ob ob' v v' k a b c d e1 e2
    obtain ⟨v0, hv0, _⟩ := hrel.ob id ob a
    obtain ⟨v1, hv1, _⟩ := hrel.ob id' ob' b
    rw [h2.rho id v0 hv0] at c
    rw [h2.rho id' v1 hv1] at d
    cases c
    cases d
    exact hrel.apart id id' ob ob' _ _ k a b hv0 hv1 e1 e2
section
variable {P : Program} {n : Nat} {ops : Array Oper} {H0 : Hp} {l : List (Nat × AV)} {objs keep : List (Nat × Ob)} {us us' caps : List AV} {u r : AV} {f : Nat} {cc : Operand} {args : Array Operand} {at_ : Array TypeId} {dst : Option Nat} {ty : TypeId} {ps : String} {af : Array Edge}
/-- What is lent. -/
inductive BrwO (objs keep : List (Nat × Ob)) : List AV → List AV → Prop
  | nil : BrwO objs keep [] []
  | keep {u : AV} {us us' : List AV} (h : BrwO objs keep us us') : BrwO objs keep (u :: us) (u :: us')
  | own {k id off len e sz : Nat} {rows rs : List (List AV)} {us us' : List AV} (h2 : objs[k]? = some (id, .row e sz rows)) (hle : off + len ≤ rows.length) (hr : (rows.drop off).take len = rs) (h : BrwO objs keep us us') : BrwO objs keep (.own id off len sz :: us) (.sl rs :: us')
  | agg {l l' us us' : List AV} (h1 : BrwO objs keep l l') (h : BrwO objs keep us us') : BrwO objs keep (.agg l :: us) (.agg l' :: us')
theorem extH_mem {i : Nat} {ob : Ob} : ∀ {r : List (Nat × Ob)}, extH nH r i = some ob → (i, ob) ∈ r
  | [], h => by cases h
  | (j, o) :: r, h => by
    by_cases hj : i = j
    · subst hj
      have : extH nH ((i, o) :: r) i = some o := by show set _ _ _ _ = _; simp
      rw [this] at h; cases h; simp
    · have : extH nH ((j, o) :: r) i = extH nH r i := by show set _ _ _ _ = _; rw [set_ne _ _ hj]
      rw [this] at h
      exact List.mem_cons_of_mem _ (extH_mem h)
def notRow : Ob → Bool
  | .row _ _ _ => false
  | _ => true
theorem BrwO.turns (hd : Dist H0 objs) (hs : Sub (extH nH keep) (extH H0 objs)) (hnr : (keep.all fun p => notRow p.2) = true) (h : BrwO objs keep us us') : us'.length = us.length ∧ ∀ (j : Nat) u u', us[j]? = some u → us'[j]? = some u' → Turns (extH H0 objs) u (extH nH keep) u' := by
  induction h with
  | nil => exact ⟨rfl, fun j u u' h => by simp at h⟩
  | keep h ih =>
    refine ⟨by simp [ih.1], fun j u u' h1 h2 => ?_⟩
    cases j with
    | zero => simp at h1 h2; subst h1 h2; exact Turns.drop hs _
    | succ j => exact ih.2 j u u' (by simpa using h1) (by simpa using h2)
  | @own k id off len e sz rows rs us us' h2 hle hr h ih =>
    have hn : extH nH keep id = none := by
      cases h5 : extH nH keep id with
      | none => rfl
      | some ob =>
        have h6 := hs id ob h5
        rw [hd.at_ h2] at h6
        cases h6
        have := List.all_eq_true.1 hnr _ (extH_mem h5)
        simp [notRow] at this
    refine ⟨by simp [ih.1], fun j u u' h3 h4 => ?_⟩
    cases j with
    | zero =>
      simp at h3 h4; subst h3 h4 hr
      exact Turns.own hs (hd.at_ h2) hn hle rfl (fun i cs cs' h1 h2 => by
        rw [h1] at h2; cases h2
        exact ⟨rfl, fun j u u' h3 h4 => by rw [h3] at h4; cases h4; exact Turns.drop hs u⟩)
    | succ j => exact ih.2 j u u' (by simpa using h3) (by simpa using h4)
  | agg h1 h ih1 ih =>
    refine ⟨by simp [ih.1], fun j u u' h3 h4 => ?_⟩
    cases j with
    | zero => simp at h3 h4; subst h3 h4; exact Turns.agg ih1.1 ih1.2
    | succ j => exact ih.2 j u u' (by simpa using h3) (by simpa using h4)
theorem Dist.to_nH {H : Hp} : ∀ {r : List (Nat × Ob)}, Dist H r → Dist nH r
  | [], _ => .nil
  | (i, ob) :: r, h => by
    cases h with
    | cons h1 h2 => exact .cons (extH_of_none rfl (extH_none h1).2) h2.to_nH
theorem keep_sub (hd : Dist H0 objs) (hk : keep.Sublist objs) : Sub (extH nH keep) (extH H0 objs) := fun i ob h => by
  obtain ⟨k, hk2⟩ := List.getElem?_of_mem (hk.subset (extH_mem h))
  exact hd.at_ hk2
/-- A call that only reads: what is kept for it is plain. -/
theorem Z.cbw (keep : List (Nat × Ob)) (hkp : keep.Sublist objs) (hpl : (keep.all fun p => plainOb p.2) = true) (hc : evO l cc = some (.clo f caps)) (ha : argsO l args.toList = some us) (hb : BrwO objs keep (us ++ caps) us') (h : Dist nH keep → ACall P f us' (extH nH keep) (IsR (extH nH keep) r)) (hr : plainR r = true := by rfl) (hnr : (keep.all fun p => notRow p.2) = true := by rfl) :
    QS P n ops H0 ⟨dst, .call { callee := .value cc, args := args, argTypes := at_ }, ty, ps, af, none⟩ l objs r :=
  QS.call rfl rfl hc ha fun hd => by
    have hs := keep_sub hd hkp
    obtain ⟨h1, h2⟩ := hb.turns hd hs hnr
    exact ACall.borrow hs (fun i ob hi => List.all_eq_true.1 hpl _ (extH_mem hi)) h1 h2 (h ((hd.sub hkp).to_nH)) hr
end
inductive Picks : List (Nat × Ob) → List (Nat × Ob) → List (Nat × Ob) → Prop
  | nil {objs : List (Nat × Ob)} : Picks objs [] objs
  | cons {objs sel rst : List (Nat × Ob)} {p : Nat × Ob} (k : Nat) (h : objs[k]? = some p) (t : Picks (objs.eraseIdx k) sel rst) : Picks objs (p :: sel) rst
theorem Picks.split {H0 : Hp} {objs sel rst : List (Nat × Ob)} (h : Picks objs sel rst) : Dist H0 objs → Dist H0 rst ∧ Dist (extH H0 rst) sel ∧ extH H0 objs = extH (extH H0 rst) sel := by
  induction h with
  | nil => exact fun hd => ⟨hd, .nil, rfl⟩
  | @cons objs sel rst p k h t ih =>
    obtain ⟨i, ob⟩ := p
    intro hd
    obtain ⟨e1, e2⟩ := hd.kill h
    obtain ⟨a, b, c⟩ := ih e2
    have h3 : extH (extH H0 rst) sel i = none := by rw [← c, ← e1]; simp
    refine ⟨a, .cons h3 b, ?_⟩
    have h4 := hd.at_ h
    funext j
    by_cases hj : j = i
    · subst hj
      rw [h4]
      show some ob = set _ _ _ _
      simp
    · show _ = set _ _ _ _
      rw [set_ne _ _ hj, ← c, ← e1, set_ne _ _ hj]
section
variable {P : Program} {n : Nat} {ops : Array Oper} {H0 : Hp} {l : List (Nat × AV)} {objs sel rst : List (Nat × Ob)} {us caps : List AV} {f : Nat} {cc : Operand} {args : Array Operand} {at_ : Array TypeId} {dst : Option Nat} {ty : TypeId} {ps : String} {af : Array Edge} {K : AV → List (Nat × Ob) → Prop} {R : AV → List (Nat × Ob) → Prop}
/-- A call that takes some objects and gives others. -/
theorem D.co (hpk : Picks objs sel rst) (hc : evO l cc = some (.clo f caps)) (ha : argsO l args.toList = some us) (h : ∀ G, Dist G sel → ACall P f (us ++ caps) (extH G sel) (fun u H' => ∃ news, Dist G news ∧ H' = extH G news ∧ R u news)) (hk : ∀ u news, R u news → K u (news ++ rst)) :
    DS P n ops H0 ⟨dst, .call { callee := .value cc, args := args, argTypes := at_ }, ty, ps, af, none⟩ l objs K := fun hdist => by
  obtain ⟨a, b, c⟩ := hpk.split hdist
  refine Does.call rfl rfl (ev_of hc) ?_
  rw [args_of ha, c]
  refine (h (extH H0 rst) b).mono fun u H' ⟨news, h1, h2, h3⟩ => ⟨news ++ rst, by rw [h2, extH_app], Dist.app a h1, hk u news h3⟩
end
theorem sz_cut {sz m m' : Nat} {rows : List (List AV)} (h : ∀ cs ∈ rows, cs.length = sz) : ∀ cs ∈ (rows.take m').drop m, cs.length = sz := fun cs hcs => h cs (List.mem_of_mem_take (List.mem_of_mem_drop hcs))
/-- What a round gives back to the loop's head. -/
def Back {α : Type} (H0 : Hp) (L : α → List (Nat × AV)) (O : α → List (Nat × Ob)) (J : α → Prop) (μ : α → Nat) (m : Nat) : Sl → Hp → Prop := fun T H =>
  ∃ a', J a' ∧ μ a' < m ∧ Dist H0 (O a') ∧ Sub (extH H0 (O a')) H ∧ ∀ t, Turns H (T t) (extH H0 (O a')) (ofL (L a') t)
section
variable {P : Program} {n : Nat} {Q : AEx → Sl → Hp → Prop} {H0 : Hp} {l : List (Nat × AV)} {objs : List (Nat × Ob)} {c : Code} {α : Type}
theorem S.loop (L : α → List (Nat × AV)) (O : α → List (Nat × Ob)) (J : α → Prop) (μ : α → Nat) (a0 : α) (h0 : J a0) (hl : Agr l (L a0)) (ho : (O a0).Sublist objs)
    (round : ∀ a, J a → UW P n (thenA (Back H0 L O J μ (μ a)) Q) H0 c (L a) (O a)) : UW P n Q H0 (.loop c) l objs := by
  refine UW.keep (L a0) (O a0) hl ho fun hd => ?_
  refine AW.loop (fun m T H => ∃ a, J a ∧ μ a = m ∧ Dist H0 (O a) ∧ Sub (extH H0 (O a)) H ∧ ∀ t, Turns H (T t) (extH H0 (O a)) (ofL (L a) t)) (μ a0) ⟨a0, h0, rfl, hd, fun _ _ h => h, fun t => Turns.drop (fun _ _ h => h) _⟩ ?_
  rintro m T H ⟨a, hJ, rfl, hd', hs, ht⟩
  refine AW.turn hs ht ?_
  refine (round a hJ hd').mono ?_
  intro e T' H' hq
  cases e with
  | normal => obtain ⟨a', h1, h2, h3, h4, h5⟩ := hq; exact ⟨μ a', h2, a', h1, rfl, h3, h4, h5⟩
  | exit id => exact hq
  | goto l => exact hq
  | ret => exact hq
theorem S.back {L : α → List (Nat × AV)} {O : α → List (Nat × Ob)} {J : α → Prop} {μ : α → Nat} {m : Nat} (a' : α) (hl : Agr l (L a')) (ho : (O a').Sublist objs) (hJ : J a') (hm : μ a' < m) : UQ (thenA (Back H0 L O J μ m) Q) H0 .normal l objs := fun hd => by
  have hd' := hd.sub ho
  have hs := sub_of_mem hd hd' (fun p hp => ho.subset hp)
  exact ⟨a', hJ, hm, hd', hs, agr_turns hl hs⟩
/-- Where ways meet: what the slots, what the objects are, and what holds. -/
def Meet (H0 : Hp) (L : List (Nat × AV)) (O : List (Nat × Ob)) (J : Prop) : Sl → Hp → Prop := fun T H =>
  J ∧ Dist H0 O ∧ Sub (extH H0 O) H ∧ ∀ t, Turns H (T t) (extH H0 O) (ofL L t)
theorem S.cut {c2 : Code} (L : List (Nat × AV)) (O : List (Nat × Ob)) (J : Prop) (hx : UW P n (thenA (Meet H0 L O J) Q) H0 c l objs) (hy : J → UW P n Q H0 c2 L O) : UW P n Q H0 (.seq c c2) l objs := fun hd => by
  refine AW.seq ((hx hd).mono ?_)
  intro e T' H' hq
  cases e with
  | normal => obtain ⟨hj, h3, h4, h5⟩ := hq; exact AW.turn h4 h5 (hy hj h3)
  | exit id => exact hq
  | goto l => exact hq
  | ret => exact hq
theorem S.fin {L : List (Nat × AV)} {O : List (Nat × Ob)} {J : Prop} (hl : Agr l L) (ho : O.Sublist objs) (hj : J) : UQ (thenA (Meet H0 L O J) Q) H0 .normal l objs := fun hd => by
  have hd' := hd.sub ho
  have hs := sub_of_mem hd hd' (fun p hp => ho.subset hp)
  exact ⟨hj, hd', hs, agr_turns hl hs⟩
/-- The same, where what the slots are hangs on something. -/
def MeetA {α : Type} (H0 : Hp) (L : α → List (Nat × AV)) (O : α → List (Nat × Ob)) (J : α → Prop) : Sl → Hp → Prop := fun T H => ∃ a, Meet H0 (L a) (O a) (J a) T H
theorem S.cutA {c2 : Code} (L : α → List (Nat × AV)) (O : α → List (Nat × Ob)) (J : α → Prop) (hx : UW P n (thenA (MeetA H0 L O J) Q) H0 c l objs) (hy : ∀ a, J a → UW P n Q H0 c2 (L a) (O a)) : UW P n Q H0 (.seq c c2) l objs := fun hd => by
  refine AW.seq ((hx hd).mono ?_)
  intro e T' H' hq
  cases e with
  | normal => obtain ⟨a, hj, h3, h4, h5⟩ := hq; exact AW.turn h4 h5 (hy a hj h3)
  | exit id => exact hq
  | goto l => exact hq
  | ret => exact hq
theorem S.finA {L : α → List (Nat × AV)} {O : α → List (Nat × Ob)} {J : α → Prop} (a : α) (hl : Agr l (L a)) (ho : (O a).Sublist objs) (hj : J a) : UQ (thenA (MeetA H0 L O J) Q) H0 .normal l objs := fun hd => ⟨a, S.fin (Q := Q) hl ho hj hd⟩
end
section
variable {P : Program} {n : Nat} {Q : AEx → Sl → Hp → Prop} {H0 : Hp} {l : List (Nat × AV)} {objs : List (Nat × Ob)} {c : Code} {ops : Array Oper} {rest : List Oper} {id k e : Nat} {cells cells' : List AV}
/-- Cells told in another way. -/
theorem HRel.recell {ρ : Rho} {w : World} (hdist : Dist H0 objs) (h2 : objs[k]? = some (id, .box e cells)) (h1 : HRel ρ (extH H0 objs) w) (hl : cells'.length = cells.length)
    (hc : ∀ (j : Nat) (u u' : AV) (x : Value), cells[j]? = some u → cells'[j]? = some u' → Rep (okOf ρ (extH H0 objs)) ρ w u x → Rep (okOf ρ (extH H0 objs)) ρ w u' x) :
    okOf ρ (extH H0 objs) = okOf ρ (extH H0 (objs.set k (id, .box e cells'))) ∧ HRel ρ (extH H0 (objs.set k (id, .box e cells'))) w := by
  have hs := (hdist.set_ (.box e cells') h2).1
  have hat := hdist.at_ h2
  have hdom : ∀ i, (extH H0 objs i).isSome = (extH H0 (objs.set k (id, .box e cells')) i).isSome := by
    intro i
    rw [← hs]
    by_cases hj : i = id
    · subst hj; rw [set_self, hat]; rfl
    · rw [set_ne _ _ hj]
  have hok := okOf_dom (ρ := ρ) hdom
  refine ⟨hok, fun id' ob hob => ?_, fun i i' o o' v v' k' q1 q2 q3 q4 q5 q6 => ?_, h1.room, h1.lt⟩
  · rw [← hok]
    rw [← hs] at hob
    by_cases hj : id' = id
    · subst hj
      rw [set_self] at hob
      cases hob
      obtain ⟨v, q1, g, vals, q2, q3, q4⟩ := h1.ob _ _ hat
      refine ⟨v, q1, g, vals, q2, q3, by rw [hl]; exact q4.1, fun j u x hu hx => ?_⟩
      obtain ⟨u0, hu0⟩ : ∃ u0, cells[j]? = some u0 := ⟨_, List.getElem?_eq_getElem (by have := (List.getElem?_eq_some_iff.1 hu).1; omega)⟩
      have := q4.2 j u0 x hu0 hx
      exact ⟨hc j u0 u x hu0 hu this.1, this.2⟩
    · rw [set_ne _ _ hj] at hob
      exact h1.ob _ _ hob
  · have hx : ∀ {i : Nat} {o : Ob}, extH H0 (objs.set k (id, .box e cells')) i = some o → ∃ o', extH H0 objs i = some o' := by
      intro i o h
      have h4 := hdom i
      rw [h] at h4
      cases h5 : extH H0 objs i with
      | none => rw [h5] at h4; cases h4
      | some o' => exact ⟨o', rfl⟩
    obtain ⟨p1, p2⟩ := hx q1
    obtain ⟨p3, p4⟩ := hx q2
    exact h1.apart i i' _ _ v v' k' p2 p4 q3 q4 q5 q6
theorem inv_nilCell {E : Ent} {a : Act} {w : World} {sz : Nat} (m e2 : Nat) (hz : 0 < sz) (hdist : Dist H0 objs) (h2 : objs[k]? = some (id, .box e cells)) (hm : cells[m]? = some (.v (.slice none 0 0))) (hi : Inv E n (ofL l) (extH H0 objs) a w) :
    ∃ id2, extH H0 objs id2 = none ∧ Inv E n (ofL l) (extH H0 ((id2, .row e2 sz []) :: objs.set k (id, .box e (cells.set m (.own id2 0 0 sz))))) a w := by
  obtain ⟨ρ, h1, h2', h3⟩ := hi.rel
  obtain ⟨id2, ρ', e1, e2', e3, e4, e5⟩ := h1.new (w' := w) (.slice none 0 0) (.row e2 sz []) (Below.refl _ _) (fun k hk => by cases hk) (fun ρ' H' e' => ⟨hz, [], ⟨by simp, .inl ⟨rfl, rfl⟩⟩, by simp, repcells_nil⟩)
  have hd2 : Dist H0 ((id2, .row e2 sz []) :: objs) := .cons e2' hdist
  obtain ⟨hok, hr⟩ := HRel.recell (cells' := cells.set m (.own id2 0 0 sz)) hd2 (k := k + 1) (by simpa using h2) (by exact e4) (by simp) (fun j u u' x hu hu' hrep => by
    by_cases hj : j = m
    · subst hj
      rw [hm] at hu; cases hu
      have : u' = .own id2 0 0 sz := by
        rw [List.getElem?_set_self (List.getElem?_eq_some_iff.1 hm).1] at hu'
        exact (Option.some.inj hu').symm
      subst this
      rw [rep_v hrep]
      exact .own0 id2 sz e3
    · rw [List.getElem?_set_ne (fun h => hj h.symm)] at hu'
      rw [hu] at hu'; cases hu'; exact hrep)
  have hext := h2'.trans e5
  refine ⟨id2, e2', hi.size, hi.defers, ρ', ?_, ⟨hext.os, hext.tape, hext.output, hext.size, hext.block, fun k' ho => hext.own k' ?_, hext.rho⟩, fun t => ?_⟩
  · exact hr
  · have : ¬ okOf ρ' (extH H0 ((id2, .row e2 sz []) :: objs.set k (id, .box e (cells.set m (.own id2 0 0 sz))))) k' := fun h => h ho
    rw [show extH H0 ((id2, .row e2 sz []) :: objs.set k (id, .box e (cells.set m (.own id2 0 0 sz)))) = extH H0 (((id2, .row e2 sz []) :: objs).set (k + 1) (id, .box e (cells.set m (.own id2 0 0 sz)))) from rfl, ← hok] at this
    exact Classical.not_not.1 this
  · have := e5.rep (h3 t)
    rw [show extH H0 ((id2, .row e2 sz []) :: objs.set k (id, .box e (cells.set m (.own id2 0 0 sz)))) = extH H0 (((id2, .row e2 sz []) :: objs).set (k + 1) (id, .box e (cells.set m (.own id2 0 0 sz)))) from rfl, ← hok]
    exact this
theorem US.nilCell {sz : Nat} (k m e2 : Nat) (hz : 0 < sz) (h2 : objs[k]? = some (id, .box e cells)) (hm : cells[m]? = some (.v (.slice none 0 0))) (hk : ∀ id2, US P n ops Q H0 rest l ((id2, .row e2 sz []) :: objs.set k (id, .box e (cells.set m (.own id2 0 0 sz))))) : US P n ops Q H0 rest l objs := by
  intro hd E a w hi
  obtain ⟨id2, h1, h3⟩ := inv_nilCell m e2 hz hd h2 hm hi
  have hd2 : Dist H0 ((id2, .row e2 sz []) :: objs) := .cons h1 hd
  exact hk id2 (hd2.set_ (k := k + 1) (.box e (cells.set m (.own id2 0 0 sz))) (by simpa using h2)).2 E a w h3
end
end Go.Eng
