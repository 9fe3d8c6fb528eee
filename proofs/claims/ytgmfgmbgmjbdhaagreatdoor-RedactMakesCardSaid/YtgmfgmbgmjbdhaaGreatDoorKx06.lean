/- The engine, seventh part: states as lists; the rules as they are used. · The engine, eighth part: rules whose lists are worked out at once. -/
import Derived.Test.YtgmfgmbgmjbdhaaGreatDoorKx05
section
namespace Go.Eng
open Go Go.RowKit
set_option linter.unusedSectionVars false
variable [Rd]
def look : List (Nat × AV) → Nat → Option AV
  | [], _ => none
  | (d, u) :: l, t => if t = d then some u else look l t
def ofL (l : List (Nat × AV)) : Sl := fun t => (look l t).getD .any
def evO (l : List (Nat × AV)) : Operand → Option AV
  | .tmp t => look l t
  | .const x => some (.v x)
  | .global g => some (.v (.pointer (some ⟨g, 0, none⟩)))
  | .func f => some (.clo f [])
theorem upd_ofL (l : List (Nat × AV)) (d : Nat) (u : AV) : upd (ofL l) d u = ofL ((d, u) :: l) := by
  funext t
  unfold upd ofL
  simp only [look]
  split <;> simp
def extH (H0 : Hp) : List (Nat × Ob) → Hp
  | [] => H0
  | (i, ob) :: r => set (extH H0 r) i (some ob)
inductive Dist (H0 : Hp) : List (Nat × Ob) → Prop
  | nil : Dist H0 []
  | cons {i : Nat} {ob : Ob} {r : List (Nat × Ob)} (h : extH H0 r i = none) (hr : Dist H0 r) : Dist H0 ((i, ob) :: r)
theorem extH_none {H0 : Hp} : ∀ {r : List (Nat × Ob)} {i : Nat}, extH H0 r i = none → H0 i = none ∧ ∀ p ∈ r, p.1 ≠ i
  | [], i, h => ⟨h, by simp⟩
  | (j, ob) :: r, i, h => by
    unfold extH at h
    by_cases hij : i = j
    · subst hij; simp at h
    · rw [set_ne _ _ hij] at h
      obtain ⟨h1, h2⟩ := extH_none h
      refine ⟨h1, fun p hp => ?_⟩
      rcases List.mem_cons.1 hp with rfl | hp
      · exact Ne.symm hij
      · exact h2 p hp
theorem extH_of_none {H0 : Hp} : ∀ {r : List (Nat × Ob)} {i : Nat}, H0 i = none → (∀ p ∈ r, p.1 ≠ i) → extH H0 r i = none
  | [], i, h, _ => h
  | (j, ob) :: r, i, h, h2 => by
    unfold extH
    rw [set_ne _ _ (Ne.symm (h2 (j, ob) (by simp)))]
    exact extH_of_none h (fun p hp => h2 p (by simp [hp]))
theorem Dist.at_ {H0 : Hp} : ∀ {r : List (Nat × Ob)} {k i : Nat} {ob : Ob}, Dist H0 r → r[k]? = some (i, ob) → extH H0 r i = some ob
  | [], k, i, ob, _, h => by simp at h
  | (j, o) :: r, 0, i, ob, _, h => by simp at h; obtain ⟨rfl, rfl⟩ := h; simp [extH]
  | (j, o) :: r, k + 1, i, ob, .cons h1 h2, h => by
    have h3 := Dist.at_ h2 (k := k) (by simpa using h)
    have : i ≠ j := by rintro rfl; rw [h3] at h1; cases h1
    unfold extH
    rw [set_ne _ _ this]
    exact h3
theorem Dist.base {H0 : Hp} : ∀ {r : List (Nat × Ob)} {k i : Nat} {ob : Ob}, Dist H0 r → r[k]? = some (i, ob) → H0 i = none
  | [], k, i, ob, _, h => by simp at h
  | (j, o) :: r, 0, i, ob, .cons h1 h2, h => by simp at h; obtain ⟨rfl, rfl⟩ := h; exact (extH_none h1).1
  | (j, o) :: r, k + 1, i, ob, .cons h1 h2, h => Dist.base h2 (k := k) (by simpa using h)
theorem Dist.set_ {H0 : Hp} : ∀ {r : List (Nat × Ob)} {k i : Nat} {ob : Ob} (ob' : Ob), Dist H0 r → r[k]? = some (i, ob) → set (extH H0 r) i (some ob') = extH H0 (r.set k (i, ob')) ∧ Dist H0 (r.set k (i, ob'))
  | [], k, i, ob, _, _, h => by simp at h
  | (j, o) :: r, 0, i, ob, ob', .cons h1 h2, h => by
    simp at h; obtain ⟨rfl, rfl⟩ := h
    refine ⟨?_, .cons h1 h2⟩
    funext t
    simp only [List.set_cons_zero, extH, Eng.set]
    split <;> rfl
  | (j, o) :: r, k + 1, i, ob, ob', .cons h1 h2, h => by
    have hk : r[k]? = some (i, ob) := by simpa using h
    have h3 := Dist.at_ h2 hk
    have hij : i ≠ j := by rintro rfl; rw [h3] at h1; cases h1
    obtain ⟨h4, h5⟩ := Dist.set_ ob' h2 hk
    refine ⟨?_, ?_⟩
    · rw [List.set_cons_succ]
      show _ = set (extH H0 (r.set k (i, ob'))) j (some o)
      rw [← h4]
      funext t
      simp only [extH, Eng.set]
      split
      · rename_i ht; subst ht; rw [if_neg hij]
      · rfl
    · rw [List.set_cons_succ]
      refine .cons ?_ h5
      rw [← h4, set_ne _ _ (Ne.symm hij)]
      exact h1
theorem Dist.kill {H0 : Hp} : ∀ {r : List (Nat × Ob)} {k i : Nat} {ob : Ob}, Dist H0 r → r[k]? = some (i, ob) → set (extH H0 r) i none = extH H0 (r.eraseIdx k) ∧ Dist H0 (r.eraseIdx k)
  | [], k, i, ob, _, h => by simp at h
  | (j, o) :: r, 0, i, ob, .cons h1 h2, h => by
    simp at h; obtain ⟨rfl, rfl⟩ := h
    refine ⟨?_, by simpa using h2⟩
    funext t
    simp only [List.eraseIdx_cons_zero, extH, Eng.set]
    split
    · rename_i ht; subst ht; exact h1.symm
    · rfl
  | (j, o) :: r, k + 1, i, ob, .cons h1 h2, h => by
    have hk : r[k]? = some (i, ob) := by simpa using h
    have h3 := Dist.at_ h2 hk
    have hij : i ≠ j := by rintro rfl; rw [h3] at h1; cases h1
    obtain ⟨h4, h5⟩ := Dist.kill h2 hk
    refine ⟨?_, ?_⟩
    · rw [List.eraseIdx_cons_succ]
      show _ = set (extH H0 (r.eraseIdx k)) j (some o)
      rw [← h4]
      funext t
      simp only [extH, Eng.set]
      split
      · rename_i ht; subst ht; rw [if_neg hij]
      · rfl
    · rw [List.eraseIdx_cons_succ]
      refine .cons ?_ h5
      rw [← h4, set_ne _ _ (Ne.symm hij)]
      exact h1
theorem sub_of_mem {H0 : Hp} {r r' : List (Nat × Ob)} (hd : Dist H0 r) (hd' : Dist H0 r') (h : ∀ p ∈ r', p ∈ r) : Sub (extH H0 r') (extH H0 r) := by
  intro i ob hi
  have key : ∀ {ob : Ob} {r' : List (Nat × Ob)}, Dist H0 r' → extH H0 r' i = some ob → (i, ob) ∈ r' ∨ (H0 i = some ob) := by
    intro ob r' hd'
    induction hd' with
    | nil => exact fun h => .inr h
    | @cons j o r h1 h2 ih =>
      intro h
      unfold extH at h
      by_cases hij : i = j
      · subst hij; rw [set_self] at h; cases h; exact .inl (by simp)
      · rw [set_ne _ _ hij] at h
        rcases ih h with h | h
        · exact .inl (by simp [h])
        · exact .inr h
  rcases key hd' hi with h1 | h1
  · obtain ⟨k, hk⟩ := List.getElem?_of_mem (h _ h1)
    exact hd.at_ hk
  · cases he : extH H0 r i with
    | none => rw [(extH_none he).1] at h1; cases h1
    | some ob2 =>
      rcases key hd he with h2 | h2
      · obtain ⟨k, hk⟩ := List.getElem?_of_mem h2
        rw [hd.base hk] at h1; cases h1
      · rw [h1] at h2; exact h2.symm
theorem Dist.sub {H0 : Hp} {r r' : List (Nat × Ob)} (hd : Dist H0 r) (h : r'.Sublist r) : Dist H0 r' := by
  induction h with
  | slnil => exact .nil
  | cons a h ih => cases hd with | cons h1 h2 => exact ih h2
  | @cons_cons l1 l2 a h ih =>
    obtain ⟨i, ob⟩ := a
    cases hd with
    | cons h1 h2 =>
      refine .cons ?_ (ih h2)
      obtain ⟨a1, a2⟩ := extH_none h1
      exact extH_of_none a1 (fun p hp => a2 p (h.subset hp))
section
variable {P : Program} {n : Nat} {ops : Array Oper} {Q : AEx → Sl → Hp → Prop} {H0 : Hp} {l : List (Nat × AV)} {objs : List (Nat × Ob)} {rest : List Oper} {o : Oper} {c : Code}
def US (P : Program) (n : Nat) (ops : Array Oper) (Q : AEx → Sl → Hp → Prop) (H0 : Hp) (rest : List Oper) (l : List (Nat × AV)) (objs : List (Nat × Ob)) : Prop :=
  Dist H0 objs → AOps P n ops Q rest (ofL l) (extH H0 objs)
def UW (P : Program) (n : Nat) (Q : AEx → Sl → Hp → Prop) (H0 : Hp) (c : Code) (l : List (Nat × AV)) (objs : List (Nat × Ob)) : Prop :=
  Dist H0 objs → AW P n c Q (ofL l) (extH H0 objs)
def UQ (Q : AEx → Sl → Hp → Prop) (H0 : Hp) (e : AEx) (l : List (Nat × AV)) (objs : List (Nat × Ob)) : Prop := Dist H0 objs → Q e (ofL l) (extH H0 objs)
theorem UW.seq {x y : Code} (h : UW P n (thenA (AW P n y Q) Q) H0 x l objs) : UW P n Q H0 (.seq x y) l objs := fun hd => AW.seq (h hd)
theorem UW.region {id : Nat} {ol : List Oper} (h : US P n ol.toArray Q H0 ol l objs) : UW P n Q H0 (.region id ol.toArray false) l objs := fun hd => AW.region_lit (h hd)
theorem UW.block {id : Nat} (h : UW P n (inBlockA id Q) H0 c l objs) : UW P n Q H0 (.block id c) l objs := fun hd => AW.block (h hd)
theorem UW.skip (h : UQ Q H0 .normal l objs) : UW P n Q H0 .skip l objs := fun hd => AW.skip (h hd)
theorem UW.exit {id : Nat} (h : UQ Q H0 (.exit id) l objs) : UW P n Q H0 (.exit id) l objs := fun hd => AW.exit (h hd)
theorem UW.ret (h : UQ Q H0 .ret l objs) : UW P n Q H0 .ret l objs := fun hd => AW.ret (h hd)
theorem US.nil (h : UQ Q H0 .normal l objs) : US P n ops Q H0 [] l objs := fun hd => AOps.nil (h hd)
theorem UQ.then {y : Code} (h : UW P n Q H0 y l objs) : UQ (thenA (AW P n y Q) Q) H0 .normal l objs := h
theorem UQ.pass {N : Sl → Hp → Prop} {id : Nat} (h : UQ Q H0 (.exit id) l objs) : UQ (thenA N Q) H0 (.exit id) l objs := h
theorem UQ.passR {N : Sl → Hp → Prop} (h : UQ Q H0 .ret l objs) : UQ (thenA N Q) H0 .ret l objs := h
theorem UQ.here {id : Nat} (h : UQ Q H0 .normal l objs) : UQ (inBlockA id Q) H0 (.exit id) l objs := fun hd => by
  simp only [inBlockA, if_true]; exact h hd
theorem UQ.out {id id' : Nat} (hne : id' ≠ id) (h : UQ Q H0 (.exit id') l objs) : UQ (inBlockA id Q) H0 (.exit id') l objs := fun hd => by
  simp only [inBlockA, if_neg hne]; exact h hd
theorem UQ.blockN {id : Nat} (h : UQ Q H0 .normal l objs) : UQ (inBlockA id Q) H0 .normal l objs := h
theorem UQ.blockR {id : Nat} (h : UQ Q H0 .ret l objs) : UQ (inBlockA id Q) H0 .ret l objs := h
theorem ev_of {x : Operand} {u : AV} (h : evO l x = some u) : ev (ofL l) x = u := by
  cases x with
  | tmp t =>
    have h' : look l t = some u := h
    show (look l t).getD .any = u
    rw [h']; rfl
  | const x => cases h; rfl
  | global g => cases h; rfl
  | func f => cases h; rfl
theorem US.step {d : Nat} (hd : o.dst = some d) (hn : d < n) (h : Dist H0 objs → Does P n ops o (ofL l) (extH H0 objs) (fun u H' => ∃ objs', H' = extH H0 objs' ∧ Dist H0 objs' ∧ US P n ops Q H0 rest ((d, u) :: l) objs')) : US P n ops Q H0 (o :: rest) l objs := by
  intro hdist
  refine AOps.cons ((h hdist).mono ?_)
  rintro u H' ⟨objs', rfl, h1, h2⟩
  have := h2 h1
  rw [← upd_ofL] at this
  simpa [putD, hd, hn] using this
theorem US.step0 (hd : o.dst = none) (h : Dist H0 objs → Does P n ops o (ofL l) (extH H0 objs) (fun _ H' => ∃ objs', H' = extH H0 objs' ∧ Dist H0 objs' ∧ US P n ops Q H0 rest l objs')) : US P n ops Q H0 (o :: rest) l objs := by
  intro hdist
  refine AOps.cons ((h hdist).mono ?_)
  rintro u H' ⟨objs', rfl, h1, h2⟩
  simpa [putD, hd] using h2 h1
variable {d : Nat} {x y : Operand} {u : AV} {t e sz b : Nat} {id off k : Nat} {ob : Ob} {cells : List AV} {rows : List (List AV)}
def flatO : AV → Option (List AV)
  | .agg l => some l
  | u => some [u]
theorem flat_of {u : AV} {cs : List AV} (h : flatO u = some cs) : flat u = cs := by
  cases u <;> simp_all [flatO, flat]
theorem US.box (hd : o.dst = some d) (hn : d < n) (hg : o.guard = none) (ho : o.op = .box e x) (hx : evO l x = some u) (hf : flatO u = some cells) (hc : cells.all cellAV = true)
    (hk : ∀ id, US P n ops Q H0 rest ((d, .ptr id 0) :: l) ((id, .box e cells) :: objs)) : US P n ops Q H0 (o :: rest) l objs :=
  US.step hd hn fun hdist => Does.box hg ho (by rw [ev_of hx, flat_of hf]; exact hc) fun id hid => ⟨(id, .box e cells) :: objs, by rw [ev_of hx, flat_of hf]; rfl, .cons hid hdist, hk id⟩
theorem US.alloc {z : Value} {zs : List AV} (hd : o.dst = some d) (hn : d < n) (hg : o.guard = none) (ho : o.op = .alloc e) (hz : (P.info? e).map (·.zero) = some (some z)) (hc : z.cells.toList.all (·.oneCell') = true) (hzs : z.cells.toList.map AV.v = zs)
    (hk : ∀ id, US P n ops Q H0 rest ((d, .ptr id 0) :: l) ((id, .box e zs) :: objs)) : US P n ops Q H0 (o :: rest) l objs :=
  US.step hd hn fun hdist => Does.alloc hg ho hz hc fun id hid => ⟨(id, .box e zs) :: objs, by rw [hzs]; rfl, .cons hid hdist, hk id⟩
theorem US.load_agg {ls rs : List AV} (hd : o.dst = some d) (hn : d < n) (hg : o.guard = none) (ho : o.op = .load t x) (hx : evO l x = some (.ptr id off)) (h2 : objs[k]? = some (id, ob)) (ht : tyOf P t = some (true, sz)) (hcs : cellsOf ob = ls) (hr : (ls.drop off).take sz = rs) (hs : off + sz ≤ ls.length)
    (hk : US P n ops Q H0 rest ((d, .agg rs) :: l) objs) (hm : memOb ob = true := by rfl) : US P n ops Q H0 (o :: rest) l objs :=
  US.step hd hn fun hdist => Does.load_agg hg ho (ev_of hx) (hdist.at_ h2) ht (by rw [hcs]; exact hs) ⟨objs, rfl, hdist, by rw [hcs, hr]; exact hk⟩ (hm := hm)
theorem US.load_cell {ls : List AV} (hd : o.dst = some d) (hn : d < n) (hg : o.guard = none) (ho : o.op = .load t x) (hx : evO l x = some (.ptr id off)) (h2 : objs[k]? = some (id, ob)) (ht : tyOf P t = some (false, sz)) (hcs : cellsOf ob = ls) (hs : ls[off]? = some u)
    (hk : US P n ops Q H0 rest ((d, u) :: l) objs) (hm : memOb ob = true := by rfl) : US P n ops Q H0 (o :: rest) l objs :=
  US.step hd hn fun hdist => Does.load_cell hg ho (ev_of hx) (hdist.at_ h2) ht (by rw [hcs]; exact hs) ⟨objs, rfl, hdist, hk⟩ (hm := hm)
theorem US.load_rp_agg (hd : o.dst = some d) (hn : d < n) (hg : o.guard = none) (ho : o.op = .load t x) (hx : evO l x = some (.rp cells)) (ht : tyOf P t = some (true, sz)) (hl : cells.length = sz)
    (hk : US P n ops Q H0 rest ((d, .agg cells) :: l) objs) : US P n ops Q H0 (o :: rest) l objs :=
  US.step hd hn fun hdist => Does.load_rp_agg hg ho (ev_of hx) (by rw [hl]; exact ht) ⟨objs, rfl, hdist, hk⟩
theorem US.load_rp_cell {r : List AV} (hd : o.dst = some d) (hn : d < n) (hg : o.guard = none) (ho : o.op = .load t x) (hx : evO l x = some (.rp (u :: r))) (ht : tyOf P t = some (false, sz))
    (hk : US P n ops Q H0 rest ((d, u) :: l) objs) : US P n ops Q H0 (o :: rest) l objs :=
  US.step hd hn fun hdist => Does.load_rp_cell hg ho (ev_of hx) ht ⟨objs, rfl, hdist, hk⟩
theorem US.store_box {ls ls' : List AV} {bb : Bool} (hd : o.dst = none) (hg : o.guard = none) (ho : o.op = .store t x y) (hx : evO l x = some (.ptr id off)) (h2 : objs[k]? = some (id, .box e ls)) (hy : evO l y = some u) (hf : flatO u = some cells) (hc : cells.all cellAV = true)
    (ht : tyOf P t = some (bb, sz)) (hl : cells.length = sz) (hs : off + sz ≤ ls.length) (hr : setL ls off cells = ls')
    (hk : US P n ops Q H0 rest l (objs.set k (id, .box e ls'))) : US P n ops Q H0 (o :: rest) l objs :=
  US.step0 hd fun hdist => Does.store_box hg ho (ev_of hx) (hdist.at_ h2) (by rw [ev_of hy, flat_of hf]; exact hc) (by rw [ev_of hy, flat_of hf, hl]; exact ht) (by rw [ev_of hy, flat_of hf, hl]; exact hs)
    ⟨_, by rw [ev_of hy, flat_of hf, hr]; exact (hdist.set_ _ h2).1, (hdist.set_ _ h2).2, hk⟩
theorem US.fieldAddr {f off' : Nat} (hd : o.dst = some d) (hn : d < n) (hg : o.guard = none) (ho : o.op = .fieldAddr t x f) (hx : evO l x = some (.ptr id off)) (h : fieldOf P t f = some off')
    (hk : US P n ops Q H0 rest ((d, .ptr id (off + off')) :: l) objs) : US P n ops Q H0 (o :: rest) l objs :=
  US.step hd hn fun hdist => Does.fieldAddr hg ho (ev_of hx) h ⟨objs, rfl, hdist, hk⟩
theorem US.indexAddr_sl {ki : IntKind} {i : Int} {cs : List AV} (hd : o.dst = some d) (hn : d < n) (hg : o.guard = none) (ho : o.op = .indexAddr t x y) (ht : slT P t = some (e, sz, b)) (hx : evO l x = some (.sl rows)) (hy : evO l y = some (.v (.int ki i))) (h0 : 0 ≤ i) (h1 : rows[i.toNat]? = some cs) (hs : cs.length = sz)
    (hk : US P n ops Q H0 rest ((d, .rp cs) :: l) objs) : US P n ops Q H0 (o :: rest) l objs :=
  US.step hd hn fun hdist => Does.indexAddr_sl hg ho ht (ev_of hx) (ev_of hy) h0 h1 hs ⟨objs, rfl, hdist, hk⟩
inductive BndsO (l : List (Nat × AV)) (len : Nat) : Option Operand → Option Operand → Nat → Nat → Prop
  | all : BndsO l len none none 0 len
  | lo {x : Operand} {k : IntKind} {a : Nat} (h : evO l x = some (.v (.int k (a : Int)))) : BndsO l len (some x) none a len
  | hi {x : Operand} {k : IntKind} {a : Nat} (h : evO l x = some (.v (.int k (a : Int)))) : BndsO l len none (some x) 0 a
  | both {x y : Operand} {k k' : IntKind} {a a' : Nat} (h : evO l x = some (.v (.int k (a : Int)))) (hh : evO l y = some (.v (.int k' (a' : Int)))) : BndsO l len (some x) (some y) a a'
theorem BndsO.to {len a a' : Nat} {lo hi : Option Operand} (h : BndsO l len lo hi a a') : Bnds (ofL l) len lo hi a a' := by
  cases h with
  | all => exact .all
  | lo h => exact .lo _ _ _ (ev_of h)
  | hi h => exact .hi _ _ _ (ev_of h)
  | both h hh => exact .both _ _ _ _ _ _ (ev_of h) (ev_of hh)
theorem US.slice_str {lo hi : Option Operand} {a a' : Nat} {str : ByteArray} (hd : o.dst = some d) (hn : d < n) (hg : o.guard = none) (ho : o.op = .slice t x lo hi none) (ht : P.underlying t = some .string) (hx : evO l x = some (.v (.string str)))
    (hb : BndsO l str.size lo hi a a') (h1 : a ≤ a') (h2 : a' ≤ str.size) (hk : US P n ops Q H0 rest ((d, .v (.string (str.extract a a'))) :: l) objs) : US P n ops Q H0 (o :: rest) l objs :=
  US.step hd hn fun hdist => Does.slice_str hg ho ht (ev_of hx) hb.to h1 h2 ⟨objs, rfl, hdist, hk⟩
theorem US.len_sl (hd : o.dst = some d) (hn : d < n) (hg : o.guard = none) (ho : o.op = .call { callee := .builtin .len, args := #[x], argTypes := #[t] }) (ht : slT P t = some (e, sz, b)) (hx : evO l x = some (.sl rows))
    (hk : US P n ops Q H0 rest ((d, .v (.int .i64 (rows.length : Int))) :: l) objs) : US P n ops Q H0 (o :: rest) l objs :=
  US.step hd hn fun hdist => Does.len_sl hg ho ht (ev_of hx) ⟨objs, rfl, hdist, hk⟩
theorem US.len_own {len : Nat} (hd : o.dst = some d) (hn : d < n) (hg : o.guard = none) (ho : o.op = .call { callee := .builtin .len, args := #[x], argTypes := #[t] }) (ht : slT P t = some (e, sz, b)) (hx : evO l x = some (.own id off len sz))
    (hk : US P n ops Q H0 rest ((d, .v (.int .i64 (len : Int))) :: l) objs) : US P n ops Q H0 (o :: rest) l objs :=
  US.step hd hn fun hdist => Does.len_own hg ho ht (ev_of hx) ⟨objs, rfl, hdist, hk⟩
theorem US.len_str {str : ByteArray} (hd : o.dst = some d) (hn : d < n) (hg : o.guard = none) (ho : o.op = .call { callee := .builtin .len, args := #[x], argTypes := #[t] }) (ht : P.underlying t = some .string) (hx : evO l x = some (.v (.string str)))
    (hk : US P n ops Q H0 rest ((d, .v (.int .i64 (str.size : Int))) :: l) objs) : US P n ops Q H0 (o :: rest) l objs :=
  US.step hd hn fun hdist => Does.len_str hg ho ht (ev_of hx) ⟨objs, rfl, hdist, hk⟩
theorem US.bin_int {op : BinOp} {t2 : Nat} {ki : IntKind} {a c : Int} {r : Value} (hd : o.dst = some d) (hn : d < n) (hg : o.guard = none) (ho : o.op = .binOp op t x y t2) (hx : evO l x = some (.v (.int ki a))) (hy : evO l y = some (.v (.int ki c))) (h : iop op ki a c = some r)
    (hk : US P n ops Q H0 rest ((d, .v r) :: l) objs) : US P n ops Q H0 (o :: rest) l objs :=
  US.step hd hn fun hdist => Does.bin_int hg ho (ev_of hx) (ev_of hy) h ⟨objs, rfl, hdist, hk⟩
theorem US.bin_str {op : BinOp} {t2 : Nat} {a c : ByteArray} {r : Bool} (hd : o.dst = some d) (hn : d < n) (hg : o.guard = none) (ho : o.op = .binOp op t x y t2) (hx : evO l x = some (.v (.string a))) (hy : evO l y = some (.v (.string c))) (h : sop op a c = some r)
    (hk : US P n ops Q H0 rest ((d, .v (.bool r)) :: l) objs) : US P n ops Q H0 (o :: rest) l objs :=
  US.step hd hn fun hdist => Does.bin_str hg ho (ev_of hx) (ev_of hy) h ⟨objs, rfl, hdist, hk⟩
/-- A read-only slice held against nil: nothing is known of one without elements. -/
theorem US.eql_nil {t2 : Nat} (hd : o.dst = some d) (hn : d < n) (hg : o.guard = none) (ho : o.op = .binOp .eql t x (.const (.slice none 0 0)) t2) (ht : P.underlying t = some (.slice e)) (hx : evO l x = some (.sl rows))
    (hk : ∀ c : Bool, (c = true → rows = []) → US P n ops Q H0 rest ((d, .v (.bool c)) :: l) objs) : US P n ops Q H0 (o :: rest) l objs :=
  US.step hd hn fun hdist => Does.eql_nil (m := rows.length) hg ho ht rfl (fun ρ w z hz => by
    rw [ev_of hx] at hz
    cases hz with
    | nil => exact ⟨none, 0, rfl, fun _ => rfl⟩
    | sl _ a cap sz vals h1 h2 h3 h4 h5 h6 => exact ⟨_, _, rfl, fun h => by cases h⟩) fun c hc => ⟨objs, rfl, hdist, hk c (fun h => List.eq_nil_of_length_eq_zero (hc h))⟩
theorem US.not {a : Bool} (hd : o.dst = some d) (hn : d < n) (hg : o.guard = none) (ho : o.op = .unOp .not t x) (hx : evO l x = some (.v (.bool a)))
    (hk : US P n ops Q H0 rest ((d, .v (.bool (!a))) :: l) objs) : US P n ops Q H0 (o :: rest) l objs :=
  US.step hd hn fun hdist => Does.not hg ho (ev_of hx) ⟨objs, rfl, hdist, hk⟩
theorem US.min2 {at_ : Array TypeId} {ki kj : IntKind} {a c : Int} (hd : o.dst = some d) (hn : d < n) (hg : o.guard = none) (ho : o.op = .call { callee := .builtin .min, args := #[x, y], argTypes := at_ }) (hx : evO l x = some (.v (.int ki a))) (hy : evO l y = some (.v (.int kj c)))
    (hk : US P n ops Q H0 rest ((d, .v (.int ki (if c < a then c else a))) :: l) objs) : US P n ops Q H0 (o :: rest) l objs :=
  US.step hd hn fun hdist => Does.min2 hg ho (ev_of hx) (ev_of hy) ⟨objs, rfl, hdist, hk⟩
inductive SrcO (objs : List (Nat × Ob)) (sz : Nat) : AV → List (List AV) → Prop
  | sl {rows : List (List AV)} (h : ∀ cs ∈ rows, cs.length = sz) : SrcO objs sz (.sl rows) rows
  | nil : SrcO objs sz (.v (.slice none 0 0)) []
  | own {k id off len e : Nat} {rows0 rs : List (List AV)} (h : objs[k]? = some (id, .row e sz rows0)) (hle : off + len ≤ rows0.length) (hr : (rows0.drop off).take len = rs) : SrcO objs sz (.own id off len sz) rs
theorem SrcO.to (hd : Dist H0 objs) {u : AV} {rs : List (List AV)} (h : SrcO objs sz u rs) : Src (extH H0 objs) sz u rs := by
  cases h with
  | sl h => exact .sl _ h
  | nil => exact .nil
  | own h hle hr => subst hr; exact .own _ _ _ _ _ (hd.at_ h) hle
theorem US.append_own {s : Operand} {len : Nat} {news rs : List (List AV)} (hd : o.dst = some d) (hn : d < n) (hg : o.guard = none) (ho : o.op = .call { callee := .builtin .append, args := #[s, x], argTypes := #[t, t] }) (ht : RowT P t e sz b)
    (hs : evO l s = some (.own id 0 len sz)) (h2 : objs[k]? = some (id, .row e sz rows)) (hle : len ≤ rows.length) (hx : evO l x = some u) (hsrc : SrcO objs sz u news) (hb : (len + news.length) * b ≤ 140737488355328) (hr : rows.take len ++ news = rs)
    (hk : ∀ id', US P n ops Q H0 rest ((d, .own id' 0 (len + news.length) sz) :: l) ((id', .row e sz rs) :: objs.eraseIdx k)) : US P n ops Q H0 (o :: rest) l objs :=
  US.step hd hn fun hdist => by
    have hkill := hdist.kill h2
    refine Does.append_own hg ho ht (ev_of hs) (hdist.at_ h2) hle (by rw [ev_of hx]; exact hsrc.to hdist) hb fun id' hid => ⟨(id', .row e sz rs) :: objs.eraseIdx k, ?_, ?_, hk id'⟩
    · rw [hkill.1, hr]; rfl
    · refine .cons ?_ hkill.2
      rw [← hkill.1]
      by_cases h : id' = id
      · subst h; simp
      · rw [set_ne _ _ h]; exact hid
def argsO (l : List (Nat × AV)) : List Operand → Option (List AV)
  | [] => some []
  | x :: r => match evO l x, argsO l r with
    | some u, some us => some (u :: us)
    | _, _ => none
theorem args_of : ∀ {xs : List Operand} {us : List AV}, argsO l xs = some us → xs.map (ev (ofL l)) = us
  | [], us, h => by cases h; rfl
  | x :: r, us, h => by
    unfold argsO at h
    split at h
    · rename_i u us' h1 h2
      cases h
      rw [List.map_cons, ev_of h1, args_of h2]
    · cases h
/-- A call, by whatever contract. -/
theorem US.call {f : Nat} {cc : Operand} {args : Array Operand} {at_ : Array TypeId} {caps us : List AV} {K : AV → Hp → Prop} (hd : o.dst = some d) (hn : d < n) (hg : o.guard = none) (ho : o.op = .call { callee := .value cc, args := args, argTypes := at_ }) (hc : evO l cc = some (.clo f caps)) (ha : argsO l args.toList = some us)
    (h : Dist H0 objs → ACall P f (us ++ caps) (extH H0 objs) K) (hk : ∀ u H', K u H' → ∃ objs', H' = extH H0 objs' ∧ (Dist H0 objs → Dist H0 objs') ∧ US P n ops Q H0 rest ((d, u) :: l) objs') : US P n ops Q H0 (o :: rest) l objs :=
  US.step hd hn fun hdist => Does.call hg ho (ev_of hc) (by
    rw [args_of ha]
    exact (h hdist).mono fun u H' hK => by
      obtain ⟨objs', e1, e2, e3⟩ := hk u H' hK
      exact ⟨objs', e1, e2 hdist, e3⟩)
/-- A call whose result is known and that leaves the heap. -/
theorem US.call_pure {f : Nat} {cc : Operand} {args : Array Operand} {at_ : Array TypeId} {caps us : List AV} {r : AV} (hd : o.dst = some d) (hn : d < n) (hg : o.guard = none) (ho : o.op = .call { callee := .value cc, args := args, argTypes := at_ }) (hc : evO l cc = some (.clo f caps)) (ha : argsO l args.toList = some us)
    (h : Dist H0 objs → ACall P f (us ++ caps) (extH H0 objs) (fun u H' => u = r ∧ H' = extH H0 objs)) (hk : US P n ops Q H0 rest ((d, r) :: l) objs) : US P n ops Q H0 (o :: rest) l objs :=
  US.call hd hn hg ho hc ha h fun u H' ⟨h1, h2⟩ => ⟨objs, h2, fun x => x, by rw [h1]; exact hk⟩
/-- A call that leaves new rows beside the heap. -/
theorem US.call_new {f : Nat} {cc : Operand} {args : Array Operand} {at_ : Array TypeId} {caps us : List AV} {R : AV → List (Nat × Ob) → Prop} (hd : o.dst = some d) (hn : d < n) (hg : o.guard = none) (ho : o.op = .call { callee := .value cc, args := args, argTypes := at_ }) (hc : evO l cc = some (.clo f caps)) (ha : argsO l args.toList = some us)
    (h : Dist H0 objs → ACall P f (us ++ caps) (extH H0 objs) (fun u H' => ∃ news, Dist (extH H0 objs) news ∧ H' = extH (extH H0 objs) news ∧ R u news)) (hk : ∀ u news, R u news → US P n ops Q H0 rest ((d, u) :: l) (news ++ objs)) : US P n ops Q H0 (o :: rest) l objs := by
  have hap : ∀ news : List (Nat × Ob), extH (extH H0 objs) news = extH H0 (news ++ objs) := by
    intro news
    induction news with
    | nil => rfl
    | cons p r ih => obtain ⟨i, ob⟩ := p; show set _ _ _ = set _ _ _; rw [ih]; rfl
  have hdi : Dist H0 objs → ∀ news : List (Nat × Ob), Dist (extH H0 objs) news → Dist H0 (news ++ objs) := by
    intro hdist news hnew
    induction hnew with
    | nil => exact hdist
    | @cons i ob r h1 h2 ih => exact .cons (show extH H0 (r ++ objs) i = none by rw [← hap]; exact h1) ih
  intro hdist0
  exact US.call (Q := Q) (rest := rest) hd hn hg ho hc ha h (fun u H' ⟨news, h1, h2, h3⟩ => ⟨news ++ objs, by rw [h2, hap], fun hdist => hdi hdist news h1, hk u news h3⟩) hdist0
theorem US.on {g : Nat × Bool} {dg : Nat} (hg : o.guard = some g) (hdg : (ops[g.1]?).bind (·.dst) = some dg) (hdn : dg < n) (hT : look l dg = some (.v (.bool g.2)))
    (h : US P n ops Q H0 ({ o with guard := none } :: rest) l objs) : US P n ops Q H0 (o :: rest) l objs := by
  intro hdist E a w hi
  have h1 := h hdist E a w hi
  have hw : Region.wanted o (yielded ops a.tmps) = true := by
    obtain ⟨ρ, _, _, h4⟩ := hi.rel
    have h5 := h4 dg
    have h6 : ofL l dg = .v (.bool g.2) := by unfold ofL; rw [hT]; rfl
    rw [h6] at h5
    have h7 := rep_v h5
    have : a.tmps[dg]? = some (.bool g.2) := by
      rw [Array.getD_eq_getD_getElem?, Array.getElem?_eq_getElem (by rw [hi.size]; exact hdn)] at h7
      rw [Array.getElem?_eq_getElem (by rw [hi.size]; exact hdn)]
      simpa using h7
    simp [Region.wanted, hg, yielded, hdg, this]
  unfold wpListIn at h1 ⊢
  rw [if_pos hw]
  rw [if_pos (by simp [Region.wanted])] at h1
  exact h1
theorem UW.cond {cc : Operand} {y1 y2 : Code} {bb : Bool} (hc : evO l cc = some (.v (.bool bb))) (ht : bb = true → UW P n Q H0 y1 l objs) (hf : bb = false → UW P n Q H0 y2 l objs) : UW P n Q H0 (.cond cc y1 y2) l objs :=
  fun hd => AW.cond bb (ev_of hc) (fun h => ht h hd) (fun h => hf h hd)
/-- Slots that are kept, objects that are kept. -/
def Agr (l : List (Nat × AV)) : List (Nat × AV) → Prop
  | [] => True
  | p :: r => look l p.1 = some p.2 ∧ Agr l r
theorem Agr.look : ∀ {l' : List (Nat × AV)}, Agr l l' → ∀ {t : Nat} {u : AV}, Eng.look l' t = some u → Eng.look l t = some u
  | [], _, t, u, h => by cases h
  | (d, v) :: r, ⟨h1, h2⟩, t, u, h => by
    unfold Eng.look at h
    split at h
    · rename_i ht; subst ht; cases h; exact h1
    · exact Agr.look h2 h
theorem agr_turns {l' : List (Nat × AV)} {objs' : List (Nat × Ob)} (h : Agr l l') (hs : Sub (extH H0 objs') (extH H0 objs)) : ∀ t, Turns (extH H0 objs) (ofL l t) (extH H0 objs') (ofL l' t) := by
  intro t
  unfold ofL
  cases h1 : Eng.look l' t with
  | none => exact Turns.any _ _
  | some u => rw [h.look h1]; exact Turns.drop hs u
theorem UW.keep (l' : List (Nat × AV)) (objs' : List (Nat × Ob)) (h : Agr l l') (ho : objs'.Sublist objs) (hk : UW P n Q H0 c l' objs') : UW P n Q H0 c l objs := fun hd => by
  have hd' := hd.sub ho
  have hs := sub_of_mem hd hd' (fun p hp => ho.subset hp)
  exact AW.turn hs (agr_turns h hs) (hk hd')
theorem US.keep (l' : List (Nat × AV)) (objs' : List (Nat × Ob)) (h : Agr l l') (ho : objs'.Sublist objs) (hk : US P n ops Q H0 rest l' objs') : US P n ops Q H0 rest l objs := fun hd => by
  have hd' := hd.sub ho
  have hs := sub_of_mem hd hd' (fun p hp => ho.subset hp)
  exact AOps.turn hs (agr_turns h hs) (hk hd')
/-- A loop: at each round's head the slots are L a, the objects O a. -/
theorem UW.loop {α : Type} (L : α → List (Nat × AV)) (O : α → List (Nat × Ob)) (J : α → Prop) (μ : α → Nat) (a0 : α) (h0 : J a0) (hl : Agr l (L a0)) (ho : (O a0).Sublist objs)
    (round : ∀ a, J a → UW P n (thenA (fun T H => ∃ a', J a' ∧ μ a' < μ a ∧ Dist H0 (O a') ∧ T = ofL (L a') ∧ H = extH H0 (O a')) Q) H0 c (L a) (O a)) : UW P n Q H0 (.loop c) l objs := by
  refine UW.keep (L a0) (O a0) hl ho fun hd => ?_
  refine AW.loop (fun m T H => ∃ a, J a ∧ μ a = m ∧ Dist H0 (O a) ∧ T = ofL (L a) ∧ H = extH H0 (O a)) (μ a0) ⟨a0, h0, rfl, hd, rfl, rfl⟩ ?_
  rintro m T H ⟨a, hJ, rfl, hd', rfl, rfl⟩
  refine (round a hJ hd').mono ?_
  intro e T' H' hq
  cases e with
  | normal => obtain ⟨a', h1, h2, h3, h4, h5⟩ := hq; exact ⟨μ a', h2, a', h1, rfl, h3, h4, h5⟩
  | exit id => exact hq
  | goto l => exact hq
  | ret => exact hq
theorem US.round {α : Type} {L : α → List (Nat × AV)} {O : α → List (Nat × Ob)} {J : α → Prop} {μ : α → Nat} {m : Nat} (a' : α) (hJ : J a') (hm : μ a' < m) (hl : Agr l (L a')) (ho : (O a').Sublist objs) :
    US P n ops (thenA (fun T H => ∃ a', J a' ∧ μ a' < m ∧ Dist H0 (O a') ∧ T = ofL (L a') ∧ H = extH H0 (O a')) Q) H0 [] l objs :=
  US.keep (L a') (O a') hl ho fun hd => AOps.nil ⟨a', hJ, hm, hd, rfl, rfl⟩
def argsL : List AV → Nat → List (Nat × AV)
  | [], _ => []
  | u :: r, k => (k, u) :: argsL r (k + 1)
theorem look_argsL : ∀ (us : List AV) (k t : Nat), k ≤ t → look (argsL us k) t = us[t - k]?
  | [], k, t, _ => by simp [argsL, look]
  | u :: r, k, t, h => by
    simp only [argsL, look]
    by_cases ht : t = k
    · subst ht; simp
    · rw [if_neg ht, look_argsL r (k + 1) t (by omega)]
      have : t - k = (t - (k + 1)) + 1 := by omega
      rw [this, List.getElem?_cons_succ]
/-- What a call is to give: its result, its heap. -/
def RetQ (P : Program) (fn : Func) (K : AV → Hp → Prop) : AEx → Sl → Hp → Prop := fun e T' H' => (match e with | .normal | .ret => True | _ => False) ∧ ∃ u H2, Res P T' H' fn u ∧ Sub H2 H' ∧ K u H2
theorem UCall {f : Nat} {us : List AV} {K : AV → Hp → Prop} {fn : Func} (hf : P.funcs[f]? = some fn) (hname : (fn.name == "runtime.NumGoroutine") = false) (hb : fn.body = some c) (hn : us.length + (fn.ntmps - us.length) = n) (hd : Dist H0 objs)
    (h : @UW rd0 P n (RetQ P fn K) H0 c (argsL us 0) objs) : ACall P f us (extH H0 objs) K := by
  refine ACall.of_body hf hname hb hn ?_
  have : (fun t => us.getD t .any) = ofL (argsL us 0) := by
    funext t
    unfold ofL
    rw [look_argsL us 0 t (Nat.zero_le _)]
    simp [List.getD_eq_getElem?_getD]
  rw [this]
  exact h hd
theorem retN {K : AV → Hp → Prop} {fn : Func} (objs' : List (Nat × Ob)) (hr : Dist H0 objs → Res P (ofL l) (extH H0 objs) fn u) (ho : objs'.Sublist objs) (hk : Dist H0 objs' → K u (extH H0 objs')) : UQ (RetQ P fn K) H0 .normal l objs := fun hd =>
  ⟨trivial, u, _, hr hd, sub_of_mem hd (hd.sub ho) (fun _ hp => ho.subset hp), hk (hd.sub ho)⟩
theorem retR {K : AV → Hp → Prop} {fn : Func} (objs' : List (Nat × Ob)) (hr : Dist H0 objs → Res P (ofL l) (extH H0 objs) fn u) (ho : objs'.Sublist objs) (hk : Dist H0 objs' → K u (extH H0 objs')) : UQ (RetQ P fn K) H0 .ret l objs := fun hd =>
  ⟨trivial, u, _, hr hd, sub_of_mem hd (hd.sub ho) (fun _ hp => ho.subset hp), hk (hd.sub ho)⟩
theorem res_tmp {fn : Func} (hf : fn.results = #[.tmp t]) (hx : look l t = some u) : Res P (ofL l) (extH H0 objs) fn u := by
  refine .inl ⟨_, hf, ?_⟩
  have h1 : ofL l t = u := by unfold ofL; rw [hx]; rfl
  rw [← h1]
  exact .tmp t
theorem res_none {fn : Func} (hf : fn.results = #[]) : Res P (ofL l) (extH H0 objs) fn (.tup []) := by
  refine .inr ⟨[], [], hf, by simp, rfl, rfl, fun j r v h => by simp at h⟩
theorem res_cell {fn : Func} {a : Nat} {ls : List AV} (hd : Dist H0 objs) (hf : fn.results = #[.cell a t]) (hx : look l a = some (.ptr id 0)) (h2 : objs[k]? = some (id, .box e ls)) (hst : ∃ fs, P.underlying t = some (.struct fs)) (hs : (P.info? t).map (·.size) = some ls.length) : Res P (ofL l) (extH H0 objs) fn (.agg ls) :=
  .inl ⟨_, hf, .cell a t id e ls (by unfold ofL; rw [hx]; rfl) (hd.at_ h2) (hst.elim fun _ h => ⟨_, h, rfl⟩) hs⟩
theorem res_cella {fn : Func} {a m e2 : Nat} {ls : List AV} (hd : Dist H0 objs) (hf : fn.results = #[.cell a t]) (hx : look l a = some (.ptr id 0)) (h2 : objs[k]? = some (id, .box e ls)) (hst : P.underlying t = some (.array m e2)) (hs : (P.info? t).map (·.size) = some ls.length) : Res P (ofL l) (extH H0 objs) fn (.agg ls) :=
  .inl ⟨_, hf, .cell a t id e ls (by unfold ofL; rw [hx]; rfl) (hd.at_ h2) ⟨_, hst, rfl⟩ hs⟩
theorem res_two {fn : Func} {r1 r2 : ResultVar} {u1 u2 : AV} (hf : fn.results = #[r1, r2]) (h1 : Res1 P (ofL l) (extH H0 objs) r1 u1) (h2 : Res1 P (ofL l) (extH H0 objs) r2 u2) : Res P (ofL l) (extH H0 objs) fn (.tup [u1, u2]) := by
  refine .inr ⟨[r1, r2], [u1, u2], hf, by simp, rfl, rfl, fun j r v a b => ?_⟩
  cases j with
  | zero => simp at a b; subst a b; exact h1
  | succ j => cases j with
    | zero => simp at a b; subst a b; exact h2
    | succ j => simp at a
theorem res1_tmp (hx : look l t = some u) : Res1 P (ofL l) (extH H0 objs) (.tmp t) u := by
  have h1 : ofL l t = u := by unfold ofL; rw [hx]; rfl
  rw [← h1]
  exact .tmp t
theorem res1_cell {a : Nat} {ls : List AV} (hd : Dist H0 objs) (hx : look l a = some (.ptr id 0)) (h2 : objs[k]? = some (id, .box e ls)) (hst : ∃ fs, P.underlying t = some (.struct fs)) (hs : (P.info? t).map (·.size) = some ls.length) : Res1 P (ofL l) (extH H0 objs) (.cell a t) (.agg ls) :=
  .cell a t id e ls (by unfold ofL; rw [hx]; rfl) (hd.at_ h2) (hst.elim fun _ h => ⟨_, h, rfl⟩) hs
end
end Go.Eng
end
section
namespace Go.Eng
open Go Go.RowKit
set_option linter.unusedSectionVars false
variable [Rd]
def subO : List AV → Nat → Nat → Option (List AV)
  | _, 0, 0 => some []
  | x :: r, 0, n + 1 => match subO r 0 n with
    | some r' => some (x :: r')
    | none => none
  | [], 0, _ + 1 => none
  | _ :: r, m + 1, n => subO r m n
  | [], _ + 1, _ => none
theorem subO_eq : ∀ {ls : List AV} {off sz : Nat} {rs : List AV}, subO ls off sz = some rs → (ls.drop off).take sz = rs ∧ off + sz ≤ ls.length
  | ls, 0, 0, rs, h => by unfold subO at h; cases h; simp
  | x :: r, 0, n + 1, rs, h => by
    unfold subO at h
    split at h
    · rename_i r' h1
      cases h
      have := subO_eq h1
      simp only [List.drop_zero] at this
      simp only [List.drop_zero, List.take_succ_cons, this.1, List.length_cons]
      exact ⟨trivial, by omega⟩
    · cases h
  | [], 0, _ + 1, rs, h => by unfold subO at h; cases h
  | _ :: r, m + 1, n, rs, h => by
    unfold subO at h
    have := subO_eq h
    simp only [List.drop_succ_cons, this.1, List.length_cons]
    exact ⟨trivial, by omega⟩
  | [], _ + 1, _, rs, h => by unfold subO at h; cases h
def setO : List AV → Nat → List AV → Option (List AV)
  | ls, 0, [] => some ls
  | _ :: r, 0, u :: us => match setO r 0 us with
    | some r' => some (u :: r')
    | none => none
  | [], 0, _ :: _ => none
  | x :: r, m + 1, us => match setO r m us with
    | some r' => some (x :: r')
    | none => none
  | [], _ + 1, _ => none
theorem setL_cons {α : Type} (x : α) : ∀ (us r : List α) (m : Nat), setL (x :: r) (m + 1) us = x :: setL r m us
  | [], r, m => rfl
  | u :: us, r, m => by simp only [setL, List.set_cons_succ]; exact setL_cons x us _ _
theorem setO_eq : ∀ {ls : List AV} {off : Nat} {us rs : List AV}, setO ls off us = some rs → setL ls off us = rs ∧ off + us.length ≤ ls.length
  | ls, 0, [], rs, h => by unfold setO at h; cases h; simp [setL]
  | x :: r, 0, u :: us, rs, h => by
    unfold setO at h
    split at h
    · rename_i r' h1
      cases h
      have := setO_eq h1
      simp only [setL, List.set_cons_zero, List.length_cons]
      rw [setL_cons, this.1]
      exact ⟨rfl, by omega⟩
    · cases h
  | [], 0, _ :: _, rs, h => by unfold setO at h; cases h
  | x :: r, m + 1, us, rs, h => by
    unfold setO at h
    split at h
    · rename_i r' h1
      cases h
      have := setO_eq h1
      rw [setL_cons, this.1, List.length_cons]
      exact ⟨rfl, by omega⟩
    · cases h
  | [], _ + 1, us, rs, h => by unfold setO at h; cases h
def flatsO : List AV → Option (List (List AV))
  | [] => some []
  | u :: r => match flatO u, flatsO r with
    | some cs, some rs => some (cs :: rs)
    | _, _ => none
theorem flatsO_eq : ∀ {us : List AV} {rs : List (List AV)}, flatsO us = some rs → us.map flat = rs
  | [], rs, h => by cases h; rfl
  | u :: r, rs, h => by
    unfold flatsO at h
    split at h
    · rename_i cs rs' h1 h2
      cases h
      rw [List.map_cons, flat_of h1, flatsO_eq h2]
    · cases h
def foldO : List AV → List Nat → List (List AV) → Option (List AV)
  | ls, [], [] => some ls
  | ls, off :: offs, us :: r => match setO ls off us with
    | some ls' => foldO ls' offs r
    | none => none
  | _, _, _ => none
theorem foldO_eq : ∀ {ls : List AV} {offs : List Nat} {uss : List (List AV)} {rs : List AV}, foldO ls offs uss = some rs → litFold ls (offs.zip uss) = rs ∧ offs.length = uss.length ∧ ∀ (j : Nat) off us, offs[j]? = some off → uss[j]? = some us → off + us.length ≤ ls.length
  | ls, [], [], rs, h => by cases h; exact ⟨rfl, rfl, fun j off us h => by simp at h⟩
  | ls, [], _ :: _, rs, h => by cases h
  | ls, _ :: _, [], rs, h => by cases h
  | ls, off :: offs, us :: r, rs, h => by
    unfold foldO at h
    split at h
    · rename_i ls' h1
      have h2 := setO_eq h1
      have h3 := foldO_eq h
      refine ⟨by rw [List.zip_cons_cons]; show litFold (setL ls off us) _ = _; rw [h2.1]; exact h3.1, by simp [h3.2.1], fun j off' us' h4 h5 => ?_⟩
      cases j with
      | zero => simp at h4 h5; subst h4 h5; exact h2.2
      | succ j =>
        have := h3.2.2 j off' us' (by simpa using h4) (by simpa using h5)
        rw [← h2.1, setL_length] at this
        exact this
    · cases h
def vals : List Value → Option (List AV)
  | [] => some []
  | x :: r => match vals r with
    | some rs => some (.v x :: rs)
    | none => none
theorem vals_eq : ∀ {zs : List Value} {rs : List AV}, vals zs = some rs → zs.map .v = rs
  | [], rs, h => by cases h; rfl
  | x :: r, rs, h => by
    unfold vals at h
    split at h
    · rename_i rs' h1; cases h; rw [List.map_cons, vals_eq h1]
    · cases h
/-- The parts' places: all are fields of these sizes. -/
def placesOk (places : List (Nat × Nat)) : List Nat → List Nat → List Nat → Bool
  | [], [], [] => true
  | i :: is, off :: offs, s :: ss => places[i]? == some (off, s) && placesOk places is offs ss
  | _, _, _ => false
theorem placesOk_get {places : List (Nat × Nat)} : ∀ {is offs ss : List Nat}, placesOk places is offs ss = true → ∀ (j : Nat) i off s, is[j]? = some i → offs[j]? = some off → ss[j]? = some s → places[i]? = some (off, s)
  | [], _, _, _, j, i, off, s, h1, _, _ => by simp at h1
  | _ :: _, [], _, h, _, _, _, _, _, _, _ => by simp [placesOk] at h
  | _ :: _, _ :: _, [], h, _, _, _, _, _, _, _ => by simp [placesOk] at h
  | i0 :: is, o0 :: offs, s0 :: ss, h, j, i, off, s, h1, h2, h3 => by
    simp only [placesOk, Bool.and_eq_true, beq_iff_eq] at h
    cases j with
    | zero => simp at h1 h2 h3; subst h1 h2 h3; exact h.1
    | succ j => exact placesOk_get h.2 j i off s (by simpa using h1) (by simpa using h2) (by simpa using h3)
section
variable {P : Program} {n : Nat} {ops : Array Oper} {Q : AEx → Sl → Hp → Prop} {H0 : Hp} {l : List (Nat × AV)} {objs : List (Nat × Ob)} {rest : List Oper} {o : Oper} {c : Code}
variable {d : Nat} {x y : Operand} {u : AV} {t e sz b : Nat} {id k : Nat} {ob : Ob} {cells : List AV} {rows : List (List AV)}
theorem US.ld_cell {off : Nat} {ls : List AV} (hd : o.dst = some d) (hn : d < n) (hg : o.guard = none) (ho : o.op = .load t x) (ht : tyOf P t = some (false, sz)) (hx : evO l x = some (.ptr id off)) (h2 : objs[k]? = some (id, .box e ls)) (hr : ls[off]? = some u)
    (hk : US P n ops Q H0 rest ((d, u) :: l) objs) : US P n ops Q H0 (o :: rest) l objs :=
  US.load_cell hd hn hg ho hx h2 ht rfl hr hk
theorem US.st_box {off : Nat} {ls ls' : List AV} {objs' : List (Nat × Ob)} {bb : Bool} (hd : o.dst = none) (hg : o.guard = none) (ho : o.op = .store t x y) (ht : tyOf P t = some (bb, sz)) (hx : evO l x = some (.ptr id off)) (h2 : objs[k]? = some (id, .box e ls)) (hy : evO l y = some u) (hf : flatO u = some cells) (hc : cells.all cellAV = true)
    (hl : cells.length = sz) (hr : setO ls off cells = some ls') (hob : objs.set k (id, .box e ls') = objs')
    (hk : US P n ops Q H0 rest l objs') : US P n ops Q H0 (o :: rest) l objs :=
  US.store_box hd hg ho hx h2 hy hf hc ht hl (by rw [← hl]; exact (setO_eq hr).2) (setO_eq hr).1 (by rw [hob]; exact hk)
theorem US.alloc' {zs : List Value} {us : List AV} {z : Value} (hd : o.dst = some d) (hn : d < n) (hg : o.guard = none) (ho : o.op = .alloc e) (hz : (P.info? e).map (·.zero) = some (some z)) (hzs : z.cells.toList = zs) (hc : zs.all (·.oneCell') = true) (hv : vals zs = some us)
    (hk : ∀ id, US P n ops Q H0 rest ((d, .ptr id 0) :: l) ((id, .box e us) :: objs)) : US P n ops Q H0 (o :: rest) l objs :=
  US.alloc hd hn hg ho hz (by rw [hzs]; exact hc) (by rw [hzs]; exact vals_eq hv) hk
theorem US.lit {len : Nat} {parts : Array (Nat × Operand)} {us : List AV} {uss : List (List AV)} (hd : o.dst = some d) (hn : d < n) (hg : o.guard = none) (ho : o.op = .buildSlice t len parts) (ht : RowT P t e sz b) (hl : len * sz ≤ 2 ^ 24)
    (hp : parts.toList.map (·.1) = List.range len) (ha : argsO l (parts.toList.map (·.2)) = some us) (hf : flatsO us = some uss) (hc : ∀ cs ∈ uss, cs.all cellAV = true ∧ cs.length = sz)
    (hk : ∀ id, US P n ops Q H0 rest ((d, .own id 0 len sz) :: l) ((id, .row e sz uss) :: objs)) : US P n ops Q H0 (o :: rest) l objs :=
  US.step hd hn fun hdist => by
    have e1 := args_of ha
    have e2 := flatsO_eq hf
    have e4 : (parts.toList.map fun p => flat (ev (ofL l) p.2)) = uss := by rw [← e2, ← e1, List.map_map, List.map_map]; rfl
    refine Does.buildSlice hg ho ht hl hp (fun p hp' => hc _ (by rw [← e4]; exact List.mem_map_of_mem (f := fun p => flat (ev (ofL l) p.2)) hp')) fun id hid => ⟨(id, .row e sz uss) :: objs, by rw [e4]; rfl, .cons hid hdist, hk id⟩
theorem US.lit_sl {len : Nat} {parts : Array (Nat × Operand)} {us : List AV} {uss : List (List AV)} (hd : o.dst = some d) (hn : d < n) (hg : o.guard = none) (ho : o.op = .buildSlice t len parts) (ht : RowT P t e sz b) (hl : len * sz ≤ 2 ^ 24)
    (hp : parts.toList.map (·.1) = List.range len) (ha : argsO l (parts.toList.map (·.2)) = some us) (hf : flatsO us = some uss) (hc : ∀ cs ∈ uss, cs.all cellAV = true ∧ cs.length = sz)
    (hk : US P n ops Q H0 rest ((d, .sl uss) :: l) objs) : US P n ops Q H0 (o :: rest) l objs :=
  US.step hd hn fun hdist => by
    have e1 := args_of ha
    have e2 := flatsO_eq hf
    have e4 : (parts.toList.map fun p => flat (ev (ofL l) p.2)) = uss := by rw [← e2, ← e1, List.map_map, List.map_map]; rfl
    refine Does.buildSlice_sl hg ho ht hl hp (fun p hp' => hc _ (by rw [← e4]; exact List.mem_map_of_mem (f := fun p => flat (ev (ofL l) p.2)) hp')) ⟨objs, rfl, hdist, by rw [e4]; exact hk⟩
theorem US.add {t2 : Nat} {ki : IntKind} {a c r : Int} (hd : o.dst = some d) (hn : d < n) (hg : o.guard = none) (ho : o.op = .binOp .add t x y t2) (hx : evO l x = some (.v (.int ki a))) (hy : evO l y = some (.v (.int ki c))) (hr : ki.wrap (a + c) = r)
    (hk : US P n ops Q H0 rest ((d, .v (.int ki r)) :: l) objs) : US P n ops Q H0 (o :: rest) l objs :=
  US.bin_int hd hn hg ho hx hy rfl (by rw [hr]; exact hk)
/-- A nil slice is an empty row of one's own. -/
theorem inv_nil {E : Ent} {a : Act} {w : World} (hz : 0 < sz) (e : Nat) (hl : look l d = some (.v (.slice none 0 0))) (hi : Inv E n (ofL l) (extH H0 objs) a w) :
    ∃ id, extH H0 objs id = none ∧ Inv E n (ofL ((d, .own id 0 0 sz) :: l)) (extH H0 ((id, .row e sz []) :: objs)) a w := by
  obtain ⟨ρ, h1, h2, h3⟩ := hi.rel
  obtain ⟨id, ρ', e1, e2, e3, e4, e5⟩ := h1.new (w' := w) (.slice none 0 0) (.row e sz []) (Below.refl _ _) (fun k hk => by cases hk) (fun ρ' H' e' => ⟨hz, [], ⟨by simp, .inl ⟨rfl, rfl⟩⟩, by simp, repcells_nil⟩)
  refine ⟨id, e2, hi.size, hi.defers, ρ', e4, h2.trans e5, fun t => ?_⟩
  have h4 := e5.rep (h3 t)
  unfold ofL at h4 ⊢
  simp only [look]
  by_cases ht : t = d
  · subst ht
    rw [hl] at h4
    rw [if_pos rfl]
    rw [rep_v h4]
    exact .own0 id sz e3
  · rw [if_neg ht]; exact h4
theorem US.nilOwn (d e sz : Nat) (hz : 0 < sz) (hl : look l d = some (.v (.slice none 0 0))) (hk : ∀ id, US P n ops Q H0 rest ((d, .own id 0 0 sz) :: l) ((id, .row e sz []) :: objs)) : US P n ops Q H0 rest l objs := by
  intro hd E a w hi
  obtain ⟨id, h1, h2⟩ := inv_nil hz e hl hi
  exact hk id (.cons h1 hd) E a w h2
/-- A row is given up: one slot is only read from now on. -/
theorem US.freeze (d : Nat) {off len : Nat} (k : Nat) (hl : look l d = some (.own id off len sz)) (h2 : objs[k]? = some (id, .row e sz rows)) (hle : off + len ≤ rows.length) (hk : US P n ops Q H0 rest ((d, .sl ((rows.drop off).take len)) :: l) (objs.eraseIdx k)) : US P n ops Q H0 rest l objs := by
  intro hd
  obtain ⟨e1, e2⟩ := hd.kill h2
  have hs : Sub (extH H0 (objs.eraseIdx k)) (extH H0 objs) := sub_of_mem hd e2 (fun p hp => List.mem_of_mem_eraseIdx hp)
  refine AOps.turn hs (fun t => ?_) (hk e2)
  unfold ofL
  simp only [look]
  by_cases ht : t = d
  · subst ht
    rw [hl, if_pos rfl]
    exact Turns.own hs (hd.at_ h2) (by rw [← e1]; simp) hle rfl (fun i cs cs' h1 h2 => by
      rw [h1] at h2; cases h2
      exact ⟨rfl, fun j u u' h3 h4 => by rw [h3] at h4; cases h4; exact Turns.drop hs u⟩)
  · rw [if_neg ht]; exact Turns.drop hs _
/-- What a call gives is told in another way. -/
theorem ACall.post {f : Nat} {us : List AV} {H : Hp} {K K' : AV → Hp → Prop} (h : ACall P f us H K) (hk : ∀ u H1, K u H1 → ∃ u' H2, Sub H2 H1 ∧ Turns H1 u H2 u' ∧ K' u' H2) : ACall P f us H K' := ACall.turn h hk
theorem setL_whole {α : Type} : ∀ (us ls : List α), us.length = ls.length → setL ls 0 us = us
  | [], [], _ => rfl
  | u :: us, l :: ls, h => by
    show setL ((l :: ls).set 0 u) 1 us = _
    rw [List.set_cons_zero, setL_cons, setL_whole us ls (by simpa using h)]
  | [], _ :: _, h => by simp at h
  | _ :: _, [], h => by simp at h
/-- A whole struct is read, or written. -/
theorem US.ld_whole {ls : List AV} (hd : o.dst = some d) (hn : d < n) (hg : o.guard = none) (ho : o.op = .load t x) (ht : tyOf P t = some (true, sz)) (hx : evO l x = some (.ptr id 0)) (h2 : objs[k]? = some (id, .box e ls)) (hl : ls.length = sz)
    (hk : US P n ops Q H0 rest ((d, .agg ls) :: l) objs) : US P n ops Q H0 (o :: rest) l objs :=
  US.load_agg hd hn hg ho hx h2 ht rfl (by rw [← hl]; simp [cellsOf]) (by simp [cellsOf, hl]) hk
theorem US.st_whole {ls : List AV} {objs' : List (Nat × Ob)} {bb : Bool} (hd : o.dst = none) (hg : o.guard = none) (ho : o.op = .store t x y) (ht : tyOf P t = some (bb, sz)) (hx : evO l x = some (.ptr id 0)) (h2 : objs[k]? = some (id, .box e ls)) (hls : ls.length = sz) (hy : evO l y = some u) (hf : flatO u = some cells) (hc : cells.all cellAV = true)
    (hl : cells.length = sz) (hob : objs.set k (id, .box e cells) = objs')
    (hk : US P n ops Q H0 rest l objs') : US P n ops Q H0 (o :: rest) l objs :=
  US.store_box hd hg ho hx h2 hy hf hc ht hl (by rw [hls]; omega) (setL_whole cells ls (by rw [hl, hls])) (by rw [hob]; exact hk)
end
end Go.Eng
end
