/- The engine, eighth part: rules whose lists are worked out at once. -/
import Derived.Test.YtgmfgmbgmjbdhaaGreatDoorKy06
namespace Go.Eng
open Go Go.RowKit
set_option linter.unusedSectionVars false
variable [Rd]
def subO : List AV → Nat → Nat → Option (List AV)
  | _, 0, 0 => some []
  | x :: r, 0, n + 1 => match subO r 0 n with
    | some r' => some (x :: r')
    | none => none
  | [], 0, _ + 1 => none
  | _ :: r, m + 1, n => subO r m n
  | [], _ + 1, _ => none
theorem subO_eq : ∀ {ls : List AV} {off sz : Nat} {rs : List AV}, subO ls off sz = some rs → (ls.drop off).take sz = rs ∧ off + sz ≤ ls.length
  | ls, 0, 0, rs, h => by unfold subO at h; cases h; simp
  | x :: r, 0, n + 1, rs, h => by
    unfold subO at h
    split at h
    · rename_i r' h1
      cases h
      have := subO_eq h1
      simp only [List.drop_zero] at this
      simp only [List.drop_zero, List.take_succ_cons, this.1, List.length_cons]
      exact ⟨trivial, by omega⟩
    · cases h
  | [], 0, _ + 1, rs, h => by unfold subO at h; cases h
  | _ :: r, m + 1, n, rs, h => by
    unfold subO at h
    have := subO_eq h
    simp only [List.drop_succ_cons, this.1, List.length_cons]
    exact ⟨trivial, by omega⟩
  | [], _ + 1, _, rs, h => by unfold subO at h; cases h
def setO : List AV → Nat → List AV → Option (List AV)
  | ls, 0, [] => some ls
  | _ :: r, 0, u :: us => match setO r 0 us with
    | some r' => some (u :: r')
    | none => none
  | [], 0, _ :: _ => none
  | x :: r, m + 1, us => match setO r m us with
    | some r' => some (x :: r')
    | none => none
  | [], _ + 1, _ => none
theorem setL_cons {α : Type} (x : α) : ∀ (us r : List α) (m : Nat), setL (x :: r) (m + 1) us = x :: setL r m us
  | [], r, m => rfl
  | u :: us, r, m => by simp only [setL, List.set_cons_succ]; exact setL_cons x us _ _
theorem setO_eq : ∀ {ls : List AV} {off : Nat} {us rs : List AV}, setO ls off us = some rs → setL ls off us = rs ∧ off + us.length ≤ ls.length
  | ls, 0, [], rs, h => by unfold setO at h; cases h; simp [setL]
  | x :: r, 0, u :: us, rs, h => by
    unfold setO at h
    split at h
    · rename_i r' h1
      cases h
      have := setO_eq h1
      simp only [setL, List.set_cons_zero, List.length_cons]
      rw [setL_cons, this.1]
      exact ⟨rfl, by omega⟩
    · cases h
  | [], 0, _ :: _, rs, h => by unfold setO at h; cases h
  | x :: r, m + 1, us, rs, h => by
    unfold setO at h
    split at h
    · rename_i r' h1
      cases h
      have := setO_eq h1
      rw [setL_cons, this.1, List.length_cons]
      exact ⟨rfl, by omega⟩
    · cases h
  | [], _ + 1, us, rs, h => by unfold setO at h; cases h
def flatsO : List AV → Option (List (List AV))
  | [] => some []
  | u :: r => match flatO u, flatsO r with
    | some cs, some rs => some (cs :: rs)
    | _, _ => none
theorem flatsO_eq : ∀ {us : List AV} {rs : List (List AV)}, flatsO us = some rs → us.map flat = rs
  | [], rs, h => by cases h; rfl
  | u :: r, rs, h => by
    unfold flatsO at h
    split at h
    · rename_i cs rs' h1 h2
      cases h
      rw [List.map_cons, flat_of h1, flatsO_eq h2]
    · cases h
def foldO : List AV → List Nat → List (List AV) → Option (List AV)
  | ls, [], [] => some ls
  | ls, off :: offs, us :: r => match setO ls off us with
    | some ls' => foldO ls' offs r
    | none => none
  | _, _, _ => none
theorem foldO_eq : ∀ {ls : List AV} {offs : List Nat} {uss : List (List AV)} {rs : List AV}, foldO ls offs uss = some rs → litFold ls (offs.zip uss) = rs ∧ offs.length = uss.length ∧ ∀ (j : Nat) off us, offs[j]? = some off → uss[j]? = some us → off + us.length ≤ ls.length
  | ls, [], [], rs, h => by cases h; exact ⟨rfl, rfl, fun j off us h => by simp at h⟩
  | ls, [], _ :: _, rs, h => by cases h
  | ls, _ :: _, [], rs, h => by cases h
  | ls, off :: offs, us :: r, rs, h => by
    unfold foldO at h
    split at h
    · rename_i ls' h1
      have h2 := setO_eq h1
      have h3 := foldO_eq h
      refine ⟨by rw [List.zip_cons_cons]; show litFold (setL ls off us) _ = _; rw [h2.1]; exact h3.1, by simp [h3.2.1], fun j off' us' h4 h5 => ?_⟩
      cases j with
      | zero => simp at h4 h5; subst h4 h5; exact h2.2
      | succ j =>
        have := h3.2.2 j off' us' (by simpa using h4) (by simpa using h5)
        rw [← h2.1, setL_length] at this
        exact this
    · cases h
def vals : List Value → Option (List AV)
  | [] => some []
  | x :: r => match vals r with
    | some rs => some (.v x :: rs)
    | none => none
theorem vals_eq : ∀ {zs : List Value} {rs : List AV}, vals zs = some rs → zs.map .v = rs
  | [], rs, h => by cases h; rfl
  | x :: r, rs, h => by
    unfold vals at h
    split at h
    · rename_i rs' h1; cases h; rw [List.map_cons, vals_eq h1]
    · cases h
/-- The parts' places: all are fields of these sizes. -/
def placesOk (places : List (Nat × Nat)) : List Nat → List Nat → List Nat → Bool
  | [], [], [] => true
  | i :: is, off :: offs, s :: ss => places[i]? == some (off, s) && placesOk places is offs ss
  | _, _, _ => false
theorem placesOk_get {places : List (Nat × Nat)} : ∀ {is offs ss : List Nat}, placesOk places is offs ss = true → ∀ (j : Nat) i off s, is[j]? = some i → offs[j]? = some off → ss[j]? = some s → places[i]? = some (off, s)
  | [], _, _, _, j, i, off, s, h1, _, _ => by simp at h1
  | _ :: _, [], _, h, _, _, _, _, _, _, _ => by simp [placesOk] at h
  | _ :: _, _ :: _, [], h, _, _, _, _, _, _, _ => by simp [placesOk] at h
  | i0 :: is, o0 :: offs, s0 :: ss, h, j, i, off, s, h1, h2, h3 => by
    simp only [placesOk, Bool.and_eq_true, beq_iff_eq] at h
    cases j with
    | zero => simp at h1 h2 h3; subst h1 h2 h3; exact h.1
    | succ j => exact placesOk_get h.2 j i off s (by simpa using h1) (by simpa using h2) (by simpa using h3)
section
variable {P : Program} {n : Nat} {ops : Array Oper} {Q : AEx → Sl → Hp → Prop} {H0 : Hp} {l : List (Nat × AV)} {objs : List (Nat × Ob)} {rest : List Oper} {o : Oper} {c : Code}
variable {d : Nat} {x y : Operand} {u : AV} {t e sz b : Nat} {id k : Nat} {ob : Ob} {cells : List AV} {rows : List (List AV)}
theorem US.ld_agg {off : Nat} {ls rs : List AV} (hd : o.dst = some d) (hn : d < n) (hg : o.guard = none) (ho : o.op = .load t x) (ht : tyOf P t = some (true, sz)) (hx : evO l x = some (.ptr id off)) (h2 : objs[k]? = some (id, .box e ls)) (hr : subO ls off sz = some rs)
    (hk : US P n ops Q H0 rest ((d, .agg rs) :: l) objs) : US P n ops Q H0 (o :: rest) l objs :=
  US.load_agg hd hn hg ho hx h2 ht rfl (subO_eq hr).1 (subO_eq hr).2 hk
theorem US.ld_cell {off : Nat} {ls : List AV} (hd : o.dst = some d) (hn : d < n) (hg : o.guard = none) (ho : o.op = .load t x) (ht : tyOf P t = some (false, sz)) (hx : evO l x = some (.ptr id off)) (h2 : objs[k]? = some (id, .box e ls)) (hr : ls[off]? = some u)
    (hk : US P n ops Q H0 rest ((d, u) :: l) objs) : US P n ops Q H0 (o :: rest) l objs :=
  US.load_cell hd hn hg ho hx h2 ht rfl hr hk
theorem US.st_box {off : Nat} {ls ls' : List AV} {objs' : List (Nat × Ob)} {bb : Bool} (hd : o.dst = none) (hg : o.guard = none) (ho : o.op = .store t x y) (ht : tyOf P t = some (bb, sz)) (hx : evO l x = some (.ptr id off)) (h2 : objs[k]? = some (id, .box e ls)) (hy : evO l y = some u) (hf : flatO u = some cells) (hc : cells.all cellAV = true)
    (hl : cells.length = sz) (hr : setO ls off cells = some ls') (hob : objs.set k (id, .box e ls') = objs')
    (hk : US P n ops Q H0 rest l objs') : US P n ops Q H0 (o :: rest) l objs :=
  US.store_box hd hg ho hx h2 hy hf hc ht hl (by rw [← hl]; exact (setO_eq hr).2) (setO_eq hr).1 (by rw [hob]; exact hk)
theorem US.alloc' {zs : List Value} {us : List AV} {z : Value} (hd : o.dst = some d) (hn : d < n) (hg : o.guard = none) (ho : o.op = .alloc e) (hz : (P.info? e).map (·.zero) = some (some z)) (hzs : z.cells.toList = zs) (hc : zs.all (·.oneCell') = true) (hv : vals zs = some us)
    (hk : ∀ id, US P n ops Q H0 rest ((d, .ptr id 0) :: l) ((id, .box e us) :: objs)) : US P n ops Q H0 (o :: rest) l objs :=
  US.alloc hd hn hg ho hz (by rw [hzs]; exact hc) (by rw [hzs]; exact vals_eq hv) hk
theorem US.build {parts : Array (Nat × Operand)} {zs : List Value} {places : List (Nat × Nat)} {us zus rs : List AV} {uss : List (List AV)} (offs : List Nat) (hd : o.dst = some d) (hn : d < n) (hg : o.guard = none) (ho : o.op = .build t parts) (ht : builtT P t = some (zs, places)) (hz : zs.all (·.oneCell') = true) (hv : vals zs = some zus)
    (ha : argsO l (parts.toList.map (·.2)) = some us) (hf : flatsO us = some uss) (hc : (uss.all fun cs => cs.all cellAV) = true) (hp : placesOk places (parts.toList.map (·.1)) offs (uss.map (·.length)) = true) (hr : foldO zus offs uss = some rs)
    (hk : US P n ops Q H0 rest ((d, .agg rs) :: l) objs) : US P n ops Q H0 (o :: rest) l objs :=
  US.step hd hn fun hdist => by
    have e1 := args_of ha
    have e2 := flatsO_eq hf
    have e3 := foldO_eq hr
    have e4 : (parts.toList.map fun p => ev (ofL l) p.2) = us := by rw [← e1, List.map_map]; rfl
    have hul : us.length = parts.toList.length := by rw [← e4, List.length_map]
    have husl : uss.length = us.length := by rw [← e2, List.length_map]
    refine Does.build offs hg ho ht hz (by rw [e3.2.1, husl, hul]) (fun j p off h1 h2 => ?_) ⟨objs, rfl, hdist, ?_⟩
    · have h3 : us[j]? = some (ev (ofL l) p.2) := by rw [← e4, List.getElem?_map, h1]; rfl
      have h4 : uss[j]? = some (flat (ev (ofL l) p.2)) := by rw [← e2, List.getElem?_map, h3]; rfl
      refine ⟨List.all_eq_true.1 hc _ (List.mem_of_getElem? h4), ?_, ?_⟩
      · exact placesOk_get hp j p.1 off _ (by rw [List.getElem?_map, h1]; rfl) h2 (by rw [List.getElem?_map, h4]; rfl)
      · have h5 := e3.2.2 j off _ h2 h4
        rw [← vals_eq hv, List.length_map] at h5
        exact h5
    · rw [e4, e2, vals_eq hv, e3.1]; exact hk
theorem US.lit {len : Nat} {parts : Array (Nat × Operand)} {us : List AV} {uss : List (List AV)} (hd : o.dst = some d) (hn : d < n) (hg : o.guard = none) (ho : o.op = .buildSlice t len parts) (ht : RowT P t e sz b) (hl : len * sz ≤ 2 ^ 24)
    (hp : parts.toList.map (·.1) = List.range len) (ha : argsO l (parts.toList.map (·.2)) = some us) (hf : flatsO us = some uss) (hc : ∀ cs ∈ uss, cs.all cellAV = true ∧ cs.length = sz)
    (hk : ∀ id, US P n ops Q H0 rest ((d, .own id 0 len sz) :: l) ((id, .row e sz uss) :: objs)) : US P n ops Q H0 (o :: rest) l objs :=
  US.step hd hn fun hdist => by
    have e1 := args_of ha
    have e2 := flatsO_eq hf
    have e4 : (parts.toList.map fun p => flat (ev (ofL l) p.2)) = uss := by rw [← e2, ← e1, List.map_map, List.map_map]; rfl
    refine Does.buildSlice hg ho ht hl hp (fun p hp' => hc _ (by rw [← e4]; exact List.mem_map_of_mem (f := fun p => flat (ev (ofL l) p.2)) hp')) fun id hid => ⟨(id, .row e sz uss) :: objs, by rw [e4]; rfl, .cons hid hdist, hk id⟩
theorem US.lit_sl {len : Nat} {parts : Array (Nat × Operand)} {us : List AV} {uss : List (List AV)} (hd : o.dst = some d) (hn : d < n) (hg : o.guard = none) (ho : o.op = .buildSlice t len parts) (ht : RowT P t e sz b) (hl : len * sz ≤ 2 ^ 24)
    (hp : parts.toList.map (·.1) = List.range len) (ha : argsO l (parts.toList.map (·.2)) = some us) (hf : flatsO us = some uss) (hc : ∀ cs ∈ uss, cs.all cellAV = true ∧ cs.length = sz)
    (hk : US P n ops Q H0 rest ((d, .sl uss) :: l) objs) : US P n ops Q H0 (o :: rest) l objs :=
  US.step hd hn fun hdist => by
    have e1 := args_of ha
    have e2 := flatsO_eq hf
    have e4 : (parts.toList.map fun p => flat (ev (ofL l) p.2)) = uss := by rw [← e2, ← e1, List.map_map, List.map_map]; rfl
    refine Does.buildSlice_sl hg ho ht hl hp (fun p hp' => hc _ (by rw [← e4]; exact List.mem_map_of_mem (f := fun p => flat (ev (ofL l) p.2)) hp')) ⟨objs, rfl, hdist, by rw [e4]; exact hk⟩
theorem US.add {t2 : Nat} {ki : IntKind} {a c r : Int} (hd : o.dst = some d) (hn : d < n) (hg : o.guard = none) (ho : o.op = .binOp .add t x y t2) (hx : evO l x = some (.v (.int ki a))) (hy : evO l y = some (.v (.int ki c))) (hr : ki.wrap (a + c) = r)
    (hk : US P n ops Q H0 rest ((d, .v (.int ki r)) :: l) objs) : US P n ops Q H0 (o :: rest) l objs :=
  US.bin_int hd hn hg ho hx hy rfl (by rw [hr]; exact hk)
theorem US.sub {t2 : Nat} {ki : IntKind} {a c r : Int} (hd : o.dst = some d) (hn : d < n) (hg : o.guard = none) (ho : o.op = .binOp .sub t x y t2) (hx : evO l x = some (.v (.int ki a))) (hy : evO l y = some (.v (.int ki c))) (hr : ki.wrap (a - c) = r)
    (hk : US P n ops Q H0 rest ((d, .v (.int ki r)) :: l) objs) : US P n ops Q H0 (o :: rest) l objs :=
  US.bin_int hd hn hg ho hx hy rfl (by rw [hr]; exact hk)
theorem US.mul {t2 : Nat} {ki : IntKind} {a c r : Int} (hd : o.dst = some d) (hn : d < n) (hg : o.guard = none) (ho : o.op = .binOp .mul t x y t2) (hx : evO l x = some (.v (.int ki a))) (hy : evO l y = some (.v (.int ki c))) (hr : ki.wrap (a * c) = r)
    (hk : US P n ops Q H0 rest ((d, .v (.int ki r)) :: l) objs) : US P n ops Q H0 (o :: rest) l objs :=
  US.bin_int hd hn hg ho hx hy rfl (by rw [hr]; exact hk)
theorem US.conv {s2 : Nat} {ki kj : IntKind} {a r : Int} (hd : o.dst = some d) (hn : d < n) (hg : o.guard = none) (ho : o.op = .convert t s2 x) (hs : (P.underlying t).isSome = true) (ht : P.underlying s2 = some (.int kj)) (hx : evO l x = some (.v (.int ki a))) (hr : kj.wrap a = r)
    (hk : US P n ops Q H0 rest ((d, .v (.int kj r)) :: l) objs) : US P n ops Q H0 (o :: rest) l objs :=
  US.conv_int hd hn hg ho hs ht hx (by rw [hr]; exact hk)
/-- A nil slice is an empty row of one's own. -/
theorem inv_nil {E : Ent} {a : Act} {w : World} (hz : 0 < sz) (e : Nat) (hl : look l d = some (.v (.slice none 0 0))) (hi : Inv E n (ofL l) (extH H0 objs) a w) :
    ∃ id, extH H0 objs id = none ∧ Inv E n (ofL ((d, .own id 0 0 sz) :: l)) (extH H0 ((id, .row e sz []) :: objs)) a w := by
  obtain ⟨ρ, h1, h2, h3⟩ := hi.rel
  obtain ⟨id, ρ', e1, e2, e3, e4, e5⟩ := h1.new (w' := w) (.slice none 0 0) (.row e sz []) (Below.refl _ _) (fun k hk => by cases hk) (fun ρ' H' e' => ⟨hz, [], ⟨by simp, .inl ⟨rfl, rfl⟩⟩, by simp, repcells_nil⟩)
  refine ⟨id, e2, hi.size, hi.defers, ρ', e4, h2.trans e5, fun t => ?_⟩
  have h4 := e5.rep (h3 t)
  unfold ofL at h4 ⊢
  simp only [look]
  by_cases ht : t = d
  · subst ht
    rw [hl] at h4
    rw [if_pos rfl]
    rw [rep_v h4]
    exact .own0 id sz e3
  · rw [if_neg ht]; exact h4
theorem US.nilOwn (d e sz : Nat) (hz : 0 < sz) (hl : look l d = some (.v (.slice none 0 0))) (hk : ∀ id, US P n ops Q H0 rest ((d, .own id 0 0 sz) :: l) ((id, .row e sz []) :: objs)) : US P n ops Q H0 rest l objs := by
  intro hd E a w hi
  obtain ⟨id, h1, h2⟩ := inv_nil hz e hl hi
  exact hk id (.cons h1 hd) E a w h2
theorem UW.nilOwn (d e sz : Nat) (hz : 0 < sz) (hl : look l d = some (.v (.slice none 0 0))) (hk : ∀ id, UW P n Q H0 c ((d, .own id 0 0 sz) :: l) ((id, .row e sz []) :: objs)) : UW P n Q H0 c l objs := by
  intro hd E a w hi
  obtain ⟨id, h1, h2⟩ := inv_nil hz e hl hi
  exact hk id (.cons h1 hd) E a w h2
/-- A row is given up: one slot is only read from now on. -/
theorem US.freeze (d : Nat) {off len : Nat} (k : Nat) (hl : look l d = some (.own id off len sz)) (h2 : objs[k]? = some (id, .row e sz rows)) (hle : off + len ≤ rows.length) (hk : US P n ops Q H0 rest ((d, .sl ((rows.drop off).take len)) :: l) (objs.eraseIdx k)) : US P n ops Q H0 rest l objs := by
  intro hd
  obtain ⟨e1, e2⟩ := hd.kill h2
  have hs : Sub (extH H0 (objs.eraseIdx k)) (extH H0 objs) := sub_of_mem hd e2 (fun p hp => List.mem_of_mem_eraseIdx hp)
  refine AOps.turn hs (fun t => ?_) (hk e2)
  unfold ofL
  simp only [look]
  by_cases ht : t = d
  · subst ht
    rw [hl, if_pos rfl]
    exact Turns.own hs (hd.at_ h2) (by rw [← e1]; simp) hle rfl (fun i cs cs' h1 h2 => by
      rw [h1] at h2; cases h2
      exact ⟨rfl, fun j u u' h3 h4 => by rw [h3] at h4; cases h4; exact Turns.drop hs u⟩)
  · rw [if_neg ht]; exact Turns.drop hs _
/-- What a call gives is told in another way. -/
theorem ACall.post {f : Nat} {us : List AV} {H : Hp} {K K' : AV → Hp → Prop} (h : ACall P f us H K) (hk : ∀ u H1, K u H1 → ∃ u' H2, Sub H2 H1 ∧ Turns H1 u H2 u' ∧ K' u' H2) : ACall P f us H K' := ACall.turn h hk
theorem setL_whole {α : Type} : ∀ (us ls : List α), us.length = ls.length → setL ls 0 us = us
  | [], [], _ => rfl
  | u :: us, l :: ls, h => by
    show setL ((l :: ls).set 0 u) 1 us = _
    rw [List.set_cons_zero, setL_cons, setL_whole us ls (by simpa using h)]
  | [], _ :: _, h => by simp at h
  | _ :: _, [], h => by simp at h
/-- A whole struct is read, or written. -/
theorem US.ld_whole {ls : List AV} (hd : o.dst = some d) (hn : d < n) (hg : o.guard = none) (ho : o.op = .load t x) (ht : tyOf P t = some (true, sz)) (hx : evO l x = some (.ptr id 0)) (h2 : objs[k]? = some (id, .box e ls)) (hl : ls.length = sz)
    (hk : US P n ops Q H0 rest ((d, .agg ls) :: l) objs) : US P n ops Q H0 (o :: rest) l objs :=
  US.load_agg hd hn hg ho hx h2 ht rfl (by rw [← hl]; simp [cellsOf]) (by simp [cellsOf, hl]) hk
theorem US.st_whole {ls : List AV} {objs' : List (Nat × Ob)} {bb : Bool} (hd : o.dst = none) (hg : o.guard = none) (ho : o.op = .store t x y) (ht : tyOf P t = some (bb, sz)) (hx : evO l x = some (.ptr id 0)) (h2 : objs[k]? = some (id, .box e ls)) (hls : ls.length = sz) (hy : evO l y = some u) (hf : flatO u = some cells) (hc : cells.all cellAV = true)
    (hl : cells.length = sz) (hob : objs.set k (id, .box e cells) = objs')
    (hk : US P n ops Q H0 rest l objs') : US P n ops Q H0 (o :: rest) l objs :=
  US.store_box hd hg ho hx h2 hy hf hc ht hl (by rw [hls]; omega) (setL_whole cells ls (by rw [hl, hls])) (by rw [hob]; exact hk)
end
end Go.Eng
