/- The engine: short rules. Z: quiet operations; D: operations that turn the heap; S: a step of a region, of a code. · Values as data; the types of this program. -/
import Derived.Test.YtgmfgmbgmjbdhaaGreatDoorKx09
import Derived.IntWalk
import Derived.Test.YtgmfgmbgmjbdhaaGreatDoorChecked
section
namespace Go.Eng
open Go Go.RowKit
set_option linter.unusedSectionVars false
variable [Rd]
section
variable {P : Program} {n : Nat} {ops : Array Oper} {Q : AEx → Sl → Hp → Prop} {H0 : Hp} {l : List (Nat × AV)} {objs objs' : List (Nat × Ob)} {rest : List Oper} {c c1 c2 : Code}
variable {dst : Option Nat} {ty : TypeId} {ps : String} {af : Array Edge} {op : Op} {o : Oper} {x y z v : Operand} {u r : AV} {t t2 e sz b : Nat} {id k off d f g : Nat} {ob : Ob} {cells ls rs cs us : List AV} {rows rws news : List (List AV)} {lo hi : Option Operand}
variable {K : AV → List (Nat × Ob) → Prop} {ki kj km : IntKind} {i a a' : Int} {p q : ByteArray} {gd : Option (Nat × Bool)}
theorem S.qu (h : QS P n ops H0 ⟨some d, op, ty, ps, af, gd⟩ l objs u) (hk : US P n ops Q H0 rest ((d, u) :: l) objs) (hn : d < n := by decide) : US P n ops Q H0 (⟨some d, op, ty, ps, af, gd⟩ :: rest) l objs := US.qs rfl hn h hk
theorem S.dd (h : DS P n ops H0 ⟨some d, op, ty, ps, af, gd⟩ l objs (fun u objs' => US P n ops Q H0 rest ((d, u) :: l) objs')) (hn : d < n := by decide) : US P n ops Q H0 (⟨some d, op, ty, ps, af, gd⟩ :: rest) l objs := US.step rfl hn h
theorem S.s (h : DS P n ops H0 ⟨none, op, ty, ps, af, gd⟩ l objs (fun _ objs' => US P n ops Q H0 rest l objs')) : US P n ops Q H0 (⟨none, op, ty, ps, af, gd⟩ :: rest) l objs := US.step0 rfl h
theorem Z.on {bb : Bool} (h : QS P n ops H0 ⟨dst, op, ty, ps, af, none⟩ l objs u) (hdg : (ops[g]?).bind (·.dst) = some d := by rfl) (hdn : d < n := by decide) (hT : look l d = some (.v (.bool bb)) := by rfl) : QS P n ops H0 ⟨dst, op, ty, ps, af, some (g, bb)⟩ l objs u := QS.on rfl hdg hdn hT h
theorem Z.of {bb b2 : Bool} (hdg : (ops[g]?).bind (·.dst) = some d := by rfl) (hT : look l d = some (.v (.bool b2)) := by rfl) (hb : b2 = !bb := by rfl) : QS P n ops H0 ⟨dst, op, ty, ps, af, some (g, bb)⟩ l objs (.v undef) := QS.goff rfl hdg hT hb
theorem Z.of2 {bb : Bool} (hdg : (ops[g]?).bind (·.dst) = some d := by rfl) (hT : look l d = some (.v undef) := by rfl) : QS P n ops H0 ⟨dst, op, ty, ps, af, some (g, bb)⟩ l objs (.v undef) := QS.goff2 rfl hdg hT
theorem D.on {bb : Bool} (h : DS P n ops H0 ⟨dst, op, ty, ps, af, none⟩ l objs K) (hdg : (ops[g]?).bind (·.dst) = some d := by rfl) (hdn : d < n := by decide) (hT : look l d = some (.v (.bool bb)) := by rfl) : DS P n ops H0 ⟨dst, op, ty, ps, af, some (g, bb)⟩ l objs K := DS.on rfl hdg hdn hT h
theorem Z.mv (hx : evO l x = some u) : QS P n ops H0 ⟨dst, .move x, ty, ps, af, none⟩ l objs u := QS.move rfl rfl hx
theorem Z.as (hx : evO l x = some u) : QS P n ops H0 ⟨dst, .assign x, ty, ps, af, none⟩ l objs u := QS.assign rfl rfl hx
theorem Z.ldw (k : Nat) (ht : tyOf P t = some (true, sz)) (hx : evO l x = some (.ptr id 0)) (h2 : objs[k]? = some (id, .box e ls)) (hl : ls.length = sz) : QS P n ops H0 ⟨dst, .load t x, ty, ps, af, none⟩ l objs (.agg ls) := QS.ld_whole rfl rfl ht hx h2 hl
theorem Z.ldc (k : Nat) (ht : tyOf P t = some (false, sz)) (hx : evO l x = some (.ptr id off)) (h2 : objs[k]? = some (id, .box e ls)) (hr : ls[off]? = some u) : QS P n ops H0 ⟨dst, .load t x, ty, ps, af, none⟩ l objs u := QS.ld_cell rfl rfl ht hx h2 hr
theorem Z.lda (k : Nat) (ht : tyOf P t = some (true, sz)) (hx : evO l x = some (.ptr id off)) (h2 : objs[k]? = some (id, .box e ls)) (hr : subO ls off sz = some rs) : QS P n ops H0 ⟨dst, .load t x, ty, ps, af, none⟩ l objs (.agg rs) := QS.ld_agg rfl rfl ht hx h2 hr
theorem Z.lpa (ht : tyOf P t = some (true, sz)) (hx : evO l x = some (.rp cells)) (hl : cells.length = sz) : QS P n ops H0 ⟨dst, .load t x, ty, ps, af, none⟩ l objs (.agg cells) := QS.load_rp_agg rfl rfl hx ht hl
theorem Z.lpc (ht : tyOf P t = some (false, sz)) (hx : evO l x = some (.rp (u :: rs))) : QS P n ops H0 ⟨dst, .load t x, ty, ps, af, none⟩ l objs u := QS.load_rp_cell rfl rfl hx ht
theorem Z.ldo (h2 : H0 id = some (.box e ls)) (ht : tyOf P t = some (false, sz)) (hx : evO l x = some (.ptr id off)) (hr : ls[off]? = some u) : QS P n ops H0 ⟨dst, .load t x, ty, ps, af, none⟩ l objs u := QS.ld_old rfl rfl ht hx h2 hr
theorem Z.fa {fl off' : Nat} (h : fieldOf P t fl = some off') (hx : evO l x = some (.ptr id off)) : QS P n ops H0 ⟨dst, .fieldAddr t x fl, ty, ps, af, none⟩ l objs (.ptr id (off + off')) := QS.fieldAddr rfl rfl hx h
theorem Z.ia (ht : slT P t = some (e, sz, b)) (hx : evO l x = some (.sl rows)) (hy : evO l y = some (.v (.int ki i))) (h0 : 0 ≤ i) (h1 : rows[i.toNat]? = some cs) (hs : cs.length = sz) : QS P n ops H0 ⟨dst, .indexAddr t x y, ty, ps, af, none⟩ l objs (.rp cs) := QS.indexAddr_sl rfl rfl ht hx hy h0 h1 hs
theorem Z.io {off len : Nat} (ht : slT P t = some (e, sz, b)) (hx : evO l x = some (.own id off len sz)) (hy : evO l y = some (.v (.int ki i))) (h0 : 0 ≤ i) (h1 : i < len) : QS P n ops H0 ⟨dst, .indexAddr t x y, ty, ps, af, none⟩ l objs (.ptr id ((off + i.toNat) * sz)) := QS.indexAddr_own rfl rfl ht hx hy h0 h1
/-- The byte at a place. -/
def bAt (s : ByteArray) (i : Int) : Int := if h : i.toNat < s.size then ((s[i.toNat]'h).toNat : Int) else 0
theorem bAt_lt (s : ByteArray) (i : Int) : 0 ≤ bAt s i ∧ bAt s i < 256 := by
  unfold bAt
  split
  · have := (s[i.toNat]).toNat_lt; omega
  · omega
theorem Z.is (ht : P.underlying t = some .string) (hx : evO l x = some (.v (.string p))) (hy : evO l y = some (.v (.int ki i))) (h0 : 0 ≤ i) (h1 : i < p.size) : QS P n ops H0 ⟨dst, .index t x y, ty, ps, af, none⟩ l objs (.v (.int .u8 (bAt p i))) :=
  QS.index_str rfl rfl ht hx hy h0 h1 (by unfold bAt; rw [dif_pos (by omega)])
theorem Z.sls {m m' : Nat} (ht : slT P t = some (e, sz, b)) (hx : evO l x = some (.sl rows)) (hs : ∀ cs ∈ rows, cs.length = sz) (hb : BndsO l rows.length lo hi m m') (h1 : m ≤ m') (h2 : m' ≤ rows.length) (hr : (rows.take m').drop m = rws) : QS P n ops H0 ⟨dst, .slice t x lo hi none, ty, ps, af, none⟩ l objs (.sl rws) := QS.slice_sl rfl rfl ht hx hs hb h1 h2 hr
theorem Z.slo {m m' off len : Nat} (ht : slT P t = some (e, sz, b)) (hx : evO l x = some (.own id off len sz)) (hb : BndsO l len lo hi m m') (h1 : m ≤ m') (h2 : m' ≤ len) : QS P n ops H0 ⟨dst, .slice t x lo hi none, ty, ps, af, none⟩ l objs (.own id (off + m) (m' - m) sz) := QS.slice_own rfl rfl ht hx hb h1 h2
theorem Z.slt {m m' : Nat} (ht : P.underlying t = some .string) (hx : evO l x = some (.v (.string p))) (hb : BndsO l p.size lo hi m m') (h1 : m ≤ m') (h2 : m' ≤ p.size) : QS P n ops H0 ⟨dst, .slice t x lo hi none, ty, ps, af, none⟩ l objs (.v (.string (p.extract m m'))) := QS.slice_str rfl rfl ht hx hb h1 h2
theorem Z.lns (ht : slT P t = some (e, sz, b)) (hx : evO l x = some (.sl rows)) : QS P n ops H0 ⟨dst, .call { callee := .builtin .len, args := #[x], argTypes := #[t] }, ty, ps, af, none⟩ l objs (.v (.int .i64 (rows.length : Int))) := QS.len_sl rfl rfl ht hx
theorem Z.lno {off len : Nat} (ht : slT P t = some (e, sz, b)) (hx : evO l x = some (.own id off len sz)) : QS P n ops H0 ⟨dst, .call { callee := .builtin .len, args := #[x], argTypes := #[t] }, ty, ps, af, none⟩ l objs (.v (.int .i64 (len : Int))) := QS.len_own rfl rfl ht hx
theorem Z.lnn (ht : slT P t = some (e, sz, b)) (hx : evO l x = some (.v (.slice none 0 0))) : QS P n ops H0 ⟨dst, .call { callee := .builtin .len, args := #[x], argTypes := #[t] }, ty, ps, af, none⟩ l objs (.v (.int .i64 0)) := QS.len_nil rfl rfl ht hx
theorem Z.lnt (ht : P.underlying t = some .string) (hx : evO l x = some (.v (.string p))) : QS P n ops H0 ⟨dst, .call { callee := .builtin .len, args := #[x], argTypes := #[t] }, ty, ps, af, none⟩ l objs (.v (.int .i64 (p.size : Int))) := QS.len_str rfl rfl ht hx
theorem Z.bi {op : BinOp} {vr : Value} (hx : evO l x = some (.v (.int ki a))) (hy : evO l y = some (.v (.int ki a'))) (h : iop op ki a a' = some vr) : QS P n ops H0 ⟨dst, .binOp op t x y t2, ty, ps, af, none⟩ l objs (.v vr) := QS.bin_int rfl rfl hx hy h
theorem Z.bs {op : BinOp} {bb : Bool} (hx : evO l x = some (.v (.string p))) (hy : evO l y = some (.v (.string q))) (h : sop op p q = some bb) : QS P n ops H0 ⟨dst, .binOp op t x y t2, ty, ps, af, none⟩ l objs (.v (.bool bb)) := QS.bin_str rfl rfl hx hy h
theorem Z.add {r : Int} (hx : evO l x = some (.v (.int ki a))) (hy : evO l y = some (.v (.int ki a'))) (hr : ki.wrap (a + a') = r) : QS P n ops H0 ⟨dst, .binOp .add t x y t2, ty, ps, af, none⟩ l objs (.v (.int ki r)) := QS.add rfl rfl hx hy hr
theorem Z.sub {r : Int} (hx : evO l x = some (.v (.int ki a))) (hy : evO l y = some (.v (.int ki a'))) (hr : ki.wrap (a - a') = r) : QS P n ops H0 ⟨dst, .binOp .sub t x y t2, ty, ps, af, none⟩ l objs (.v (.int ki r)) := QS.sub rfl rfl hx hy hr
theorem Z.mul {r : Int} (hx : evO l x = some (.v (.int ki a))) (hy : evO l y = some (.v (.int ki a'))) (hr : ki.wrap (a * a') = r) : QS P n ops H0 ⟨dst, .binOp .mul t x y t2, ty, ps, af, none⟩ l objs (.v (.int ki r)) := QS.mul rfl rfl hx hy hr
theorem Z.cat (hx : evO l x = some (.v (.string p))) (hy : evO l y = some (.v (.string q))) (h : p.size + q.size ≤ 9223372036854775807) : QS P n ops H0 ⟨dst, .binOp .add t x y t2, ty, ps, af, none⟩ l objs (.v (.string (p ++ q))) := QS.bin_cat rfl rfl hx hy h
theorem Z.beq {m m' : Bool} (ht : P.underlying t = some .bool) (hx : evO l x = some (.v (.bool m))) (hy : evO l y = some (.v (.bool m'))) : QS P n ops H0 ⟨dst, .binOp .eql t x y t2, ty, ps, af, none⟩ l objs (.v (.bool (m == m'))) := QS.bool_eql rfl rfl ht hx hy
theorem Z.shl {r : Int} (hx : evO l x = some (.v (.int ki a))) (hy : evO l y = some (.v (.int kj a'))) (hb : 0 ≤ a') (hr : ki.wrap (a * 2 ^ min a'.toNat ki.bits) = r) : QS P n ops H0 ⟨dst, .binOp .shl t x y t2, ty, ps, af, none⟩ l objs (.v (.int ki r)) := fun hdist => Does.bin_shl rfl rfl (ev_of hx) (ev_of hy) hb ⟨by rw [hr], rfl⟩
theorem Z.shr {r : Int} (hx : evO l x = some (.v (.int ki a))) (hy : evO l y = some (.v (.int kj a'))) (hb : 0 ≤ a') (hr : a.fdiv (2 ^ min a'.toNat ki.bits) = r) : QS P n ops H0 ⟨dst, .binOp .shr t x y t2, ty, ps, af, none⟩ l objs (.v (.int ki r)) := fun hdist => Does.bin_shr rfl rfl (ev_of hx) (ev_of hy) hb ⟨by rw [hr], rfl⟩
theorem Z.not {m : Bool} (hx : evO l x = some (.v (.bool m))) : QS P n ops H0 ⟨dst, .unOp .not t x, ty, ps, af, none⟩ l objs (.v (.bool (!m))) := QS.not rfl rfl hx
theorem Z.neg {r : Int} (hx : evO l x = some (.v (.int ki a))) (hr : ki.wrap (0 - a) = r) : QS P n ops H0 ⟨dst, .unOp .neg t x, ty, ps, af, none⟩ l objs (.v (.int ki r)) := fun hdist => Does.neg rfl rfl (ev_of hx) ⟨by rw [hr], rfl⟩
theorem Z.cv {r : Int} (ht : P.underlying t2 = some (.int kj)) (hx : evO l x = some (.v (.int ki a))) (hr : kj.wrap a = r) (hs : (P.underlying t).isSome = true) : QS P n ops H0 ⟨dst, .convert t t2 x, ty, ps, af, none⟩ l objs (.v (.int kj r)) := QS.conv rfl rfl hs ht hx hr
theorem Z.min {at_ : Array TypeId} (hx : evO l x = some (.v (.int ki a))) (hy : evO l y = some (.v (.int kj a'))) : QS P n ops H0 ⟨dst, .call { callee := .builtin .min, args := #[x, y], argTypes := at_ }, ty, ps, af, none⟩ l objs (.v (.int ki (if a' < a then a' else a))) := QS.min2 rfl rfl hx hy
theorem Z.ex {m : Nat} (hx : evO l x = some (.tup us)) (hu : us[m]? = some u) : QS P n ops H0 ⟨dst, .extract x m, ty, ps, af, none⟩ l objs u := QS.extract rfl rfl hx hu
theorem Z.pick {bb : Bool} {cc : Operand} (hc : evO l cc = some (.v (.bool bb))) (hr : (if bb then evO l x else evO l y) = some r) : QS P n ops H0 ⟨dst, .pick cc x y, ty, ps, af, none⟩ l objs r := QS.pick rfl rfl hc hr
theorem Z.mf {caps : Array Operand} (ha : argsO l caps.toList = some us) : QS P n ops H0 ⟨dst, .makeFunc (.func f) #[] caps, ty, ps, af, none⟩ l objs (.clo f us) := fun hdist => Does.makeFunc rfl rfl ⟨by rw [args_of ha], rfl⟩
theorem Z.bd {parts : Array (Nat × Operand)} {zs : List Value} {places : List (Nat × Nat)} {zus rs' : List AV} {uss : List (List AV)} (offs : List Nat) (ht : builtT P t = some (zs, places)) (ha : argsO l (parts.toList.map (·.2)) = some us) (hf : flatsO us = some uss) (hc : (uss.all fun cs => cs.all cellAV) = true) (hv : vals zs = some zus) (hr : foldO zus offs uss = some rs) (hu : nilsL rs = rs')
    (hz : zs.all (·.oneCell') = true := by rfl) (hp : placesOk places (parts.toList.map (·.1)) offs (uss.map (·.length)) = true := by rfl) : QS P n ops H0 ⟨dst, .build t parts, ty, ps, af, none⟩ l objs (.agg rs') := QS.buildN offs rfl rfl ht hz hv ha hf hc hp hr hu
theorem Z.bdp {parts : Array (Nat × Operand)} {zs : List Value} {places : List (Nat × Nat)} {zus : List AV} {uss : List (List AV)} (offs : List Nat) (ht : builtT P t = some (zs, places)) (ha : argsO l (parts.toList.map (·.2)) = some us) (hf : flatsO us = some uss) (hc : (uss.all fun cs => cs.all cellAV) = true) (hv : vals zs = some zus) (hr : foldO zus offs uss = some rs)
    (hz : zs.all (·.oneCell') = true := by rfl) (hp : placesOk places (parts.toList.map (·.1)) offs (uss.map (·.length)) = true := by rfl) : QS P n ops H0 ⟨dst, .build t parts, ty, ps, af, none⟩ l objs (.agg rs) := QS.build offs rfl rfl ht hz hv ha hf hc hp hr
theorem Z.bl {len : Nat} {parts : Array (Nat × Operand)} {uss : List (List AV)} (ht : RowT P t e sz b) (ha : argsO l (parts.toList.map (·.2)) = some us) (hf : flatsO us = some uss) (hc : ∀ cs ∈ uss, cs.all cellAV = true ∧ cs.length = sz) (hl : len * sz ≤ 2 ^ 24 := by decide) (hp : parts.toList.map (·.1) = List.range len := by rfl) : QS P n ops H0 ⟨dst, .buildSlice t len parts, ty, ps, af, none⟩ l objs (.sl uss) := QS.lit_sl rfl rfl ht hl hp ha hf hc
theorem Z.call {cc : Operand} {args : Array Operand} {at_ : Array TypeId} {caps : List AV} (hc : evO l cc = some (.clo f caps)) (ha : argsO l args.toList = some us) (h : ∀ H, ACall P f (us ++ caps) H (IsR H r)) : QS P n ops H0 ⟨dst, .call { callee := .value cc, args := args, argTypes := at_ }, ty, ps, af, none⟩ l objs r := QS.call rfl rfl hc ha fun _ => h _
theorem Z.calld {cc : Operand} {args : Array Operand} {at_ : Array TypeId} {caps : List AV} (hc : evO l cc = some (.clo f caps)) (ha : argsO l args.toList = some us) (h : Dist H0 objs → ACall P f (us ++ caps) (extH H0 objs) (IsR (extH H0 objs) r)) : QS P n ops H0 ⟨dst, .call { callee := .value cc, args := args, argTypes := at_ }, ty, ps, af, none⟩ l objs r := QS.call rfl rfl hc ha h
/-- The result is known to be another one. -/
theorem Z.eq {u' : AV} (h : QS P n ops H0 o l objs u) (he : u = u') : QS P n ops H0 o l objs u' := he ▸ h
theorem Z.tT {bb : Bool} (h : QS P n ops H0 o l objs (.v (.bool bb))) (he : bb = true) : QS P n ops H0 o l objs (.v (.bool true)) := he ▸ h
theorem Z.tF {bb : Bool} (h : QS P n ops H0 o l objs (.v (.bool bb))) (he : bb = false) : QS P n ops H0 o l objs (.v (.bool false)) := he ▸ h
theorem D.qu (h : QS P n ops H0 o l objs u) (hk : K u objs) : DS P n ops H0 o l objs K := DS.qs h hk
theorem D.box (hx : evO l x = some u) (hf : flatO u = some cells) (hc : cells.all cellAV = true) (hk : ∀ id, K (.ptr id 0) ((id, .box e cells) :: objs)) : DS P n ops H0 ⟨dst, .box e x, ty, ps, af, none⟩ l objs K :=
  fun hdist => Does.box rfl rfl (by rw [ev_of hx, flat_of hf]; exact hc) fun id hid => ⟨(id, .box e cells) :: objs, by rw [ev_of hx, flat_of hf]; rfl, .cons hid hdist, hk id⟩
theorem D.al {zs : List Value} {us' : List AV} {zv : Value} (hz : (P.info? e).map (·.zero) = some (some zv)) (hzs : zv.cells.toList = zs) (hv : vals zs = some us) (hu : nilsL us = us') (hk : ∀ id, K (.ptr id 0) ((id, .box e us') :: objs)) (hc : zs.all (·.oneCell') = true := by rfl) : DS P n ops H0 ⟨dst, .alloc e, ty, ps, af, none⟩ l objs K := by
  subst hzs hu
  intro hd a w ρ h1 hdf hr hT N Qc hN
  refine Does.alloc (P := P) (n := n) (ops := ops) (T := ofL l) (H := extH H0 objs) (K := fun u H' => ∃ id, u = .ptr id 0 ∧ extH H0 objs id = none ∧ H' = extH H0 ((id, .box e us) :: objs)) rfl rfl hz hc (fun id hid => ⟨id, rfl, hid, by rw [← vals_eq hv]; rfl⟩) a w ρ h1 hdf hr hT N Qc ?_
  rintro x w' ρ' u H' q1 q2 q3 ⟨id, rfl, hid, rfl⟩
  have hd2 : Dist H0 ((id, .box e us) :: objs) := .cons hid hd
  have hi : Inv ⟨ρ', extH H0 ((id, .box e us) :: objs), w'⟩ (a.tmps.push x).size (fun t => if t < a.tmps.size then ofL l t else if t = a.tmps.size then .ptr id 0 else .any) (extH H0 ((id, .box e us) :: objs)) { tmps := a.tmps.push x, defers := [] } w' := by
    refine ⟨rfl, .none, ρ', q1, Ext.refl _ _ _, fun t => ?_⟩
    by_cases ht : t < a.tmps.size
    · rw [if_pos ht]
      have := q2.rep (hT t)
      have e1 : (a.tmps.push x).getD t undef = a.tmps.getD t undef := by
        simp [Array.getD_eq_getD_getElem?, Array.getElem?_push, Nat.ne_of_lt ht]
      show Rep _ _ _ _ ((a.tmps.push x).getD t undef)
      rw [e1]; exact this
    · rw [if_neg ht]
      by_cases ht2 : t = a.tmps.size
      · rw [if_pos ht2]
        have e1 : (a.tmps.push x).getD t undef = x := by subst ht2; simp [Array.getD_eq_getD_getElem?]
        show Rep _ _ _ _ ((a.tmps.push x).getD t undef)
        rw [e1]; exact q3
      · rw [if_neg ht2]; exact .any _
  obtain ⟨ρ2, e1, e2, e3⟩ := (inv_nils (k := 0) hd2 rfl hi).rel
  have e4 := e3 a.tmps.size
  rw [if_neg (by omega), if_pos rfl] at e4
  have e5 : (a.tmps.push x).getD a.tmps.size undef = x := by simp [Array.getD_eq_getD_getElem?]
  have e6 : Rep (okOf ρ2 (extH H0 ((id, .box e (nilsL us)) :: objs))) ρ2 w' (.ptr id 0) x := by rw [← e5]; exact e4
  have hd3 : Dist H0 ((id, .box e (nilsL us)) :: objs) := .cons hid hd
  exact hN x w' ρ2 (.ptr id 0) (extH H0 ((id, .box e (nilsL us)) :: objs)) e1 (q2.trans e2) e6 ⟨_, rfl, hd3, hk id⟩
theorem D.lit {len : Nat} {parts : Array (Nat × Operand)} {uss : List (List AV)} (ht : RowT P t e sz b) (ha : argsO l (parts.toList.map (·.2)) = some us) (hf : flatsO us = some uss) (hc : ∀ cs ∈ uss, cs.all cellAV = true ∧ cs.length = sz)
    (hk : ∀ id, K (.own id 0 len sz) ((id, .row e sz uss) :: objs)) (hl : len * sz ≤ 2 ^ 24 := by decide) (hp : parts.toList.map (·.1) = List.range len := by rfl) : DS P n ops H0 ⟨dst, .buildSlice t len parts, ty, ps, af, none⟩ l objs K :=
  fun hdist => by
    have e1 := args_of ha
    have e2 := flatsO_eq hf
    have e4 : (parts.toList.map fun p => flat (ev (ofL l) p.2)) = uss := by rw [← e2, ← e1, List.map_map, List.map_map]; rfl
    refine Does.buildSlice rfl rfl ht hl hp (fun p hp' => hc _ (by rw [← e4]; exact List.mem_map_of_mem (f := fun p => flat (ev (ofL l) p.2)) hp')) fun id hid => ⟨(id, .row e sz uss) :: objs, by rw [e4]; rfl, .cons hid hdist, hk id⟩
theorem D.st {bb : Bool} (k : Nat) (ht : tyOf P t = some (bb, sz)) (hx : evO l x = some (.ptr id off)) (h2 : objs[k]? = some (id, .box e ls)) (hy : evO l y = some u) (hf : flatO u = some cells) (hc : cells.all cellAV = true) (hl : cells.length = sz) (hr : setO ls off cells = some rs) (hob : objs.set k (id, .box e rs) = objs') (hk : ∀ u, K u objs') : DS P n ops H0 ⟨dst, .store t x y, ty, ps, af, none⟩ l objs K := DS.st_box rfl rfl ht hx h2 hy hf hc hl hr hob hk
theorem D.stw {bb : Bool} (k : Nat) (ht : tyOf P t = some (bb, sz)) (hx : evO l x = some (.ptr id 0)) (h2 : objs[k]? = some (id, .box e ls)) (hy : evO l y = some u) (hf : flatO u = some cells) (hc : cells.all cellAV = true) (hl : cells.length = sz) (hls : ls.length = sz) (hob : objs.set k (id, .box e cells) = objs') (hk : ∀ u, K u objs') : DS P n ops H0 ⟨dst, .store t x y, ty, ps, af, none⟩ l objs K := DS.st_whole rfl rfl ht hx h2 hls hy hf hc hl hob hk
theorem D.str {m : Nat} {bb : Bool} (k : Nat) (ht : tyOf P t = some (bb, sz)) (hx : evO l x = some (.ptr id off)) (h2 : objs[k]? = some (id, .row e sz rows)) (hoff : off = m * sz) (hi : m < rows.length) (hy : evO l y = some u) (hf : flatO u = some cells) (hc : cells.all cellAV = true) (hl : cells.length = sz) (hrows : ∀ cs ∈ rows, cs.length = sz)
    (hk : ∀ u, K u (objs.set k (id, .row e sz (rows.set m cells)))) (hz : 0 < sz := by decide) : DS P n ops H0 ⟨dst, .store t x y, ty, ps, af, none⟩ l objs K := DS.store_row rfl rfl hx h2 hoff hi hy hf hc ht hl hz hrows hk
theorem D.ap {s : Operand} {len : Nat} (k : Nat) (ht : RowT P t e sz b) (hs : evO l s = some (.own id 0 len sz)) (h2 : objs[k]? = some (id, .row e sz rows)) (hle : len ≤ rows.length) (hx : evO l x = some u) (hsrc : SrcO objs sz u news) (hb : (len + news.length) * b ≤ 140737488355328) (hr : rows.take len ++ news = rws)
    (hk : ∀ id', K (.own id' 0 (len + news.length) sz) ((id', .row e sz rws) :: objs.eraseIdx k)) : DS P n ops H0 ⟨dst, .call { callee := .builtin .append, args := #[s, x], argTypes := #[t, t] }, ty, ps, af, none⟩ l objs K := DS.append_own rfl rfl ht hs h2 hle hx hsrc hb hr hk
theorem D.apn {s : Operand} (ht : RowT P t e sz b) (hs : evO l s = some (.v (.slice none 0 0))) (hx : evO l x = some u) (hsrc : SrcO objs sz u news) (hb : news.length * b ≤ 140737488355328)
    (hk : ∀ id', K (.own id' 0 news.length sz) ((id', .row e sz news) :: objs)) : DS P n ops H0 ⟨dst, .call { callee := .builtin .append, args := #[s, x], argTypes := #[t, t] }, ty, ps, af, none⟩ l objs K := DS.append_nil rfl rfl ht hs hx hsrc hb hk
theorem D.ib (ht : P.underlying t = some .string) (hx : evO l x = some (.v (.string p))) (hy : evO l y = some (.v (.int ki i))) (h0 : 0 ≤ i) (h1 : i < p.size) (hk : 0 ≤ bAt p i ∧ bAt p i < 256 → K (.v (.int .u8 (bAt p i))) objs) : DS P n ops H0 ⟨dst, .index t x y, ty, ps, af, none⟩ l objs K := D.qu (Z.is ht hx hy h0 h1) (hk (bAt_lt _ _))
theorem D.eqn (ht : P.underlying t = some (.slice e)) (hx : evO l x = some (.sl rows)) (hk : ∀ bb : Bool, (bb = true → rows = []) → K (.v (.bool bb)) objs) : DS P n ops H0 ⟨dst, .binOp .eql t x (.const (.slice none 0 0)) t2, ty, ps, af, none⟩ l objs K :=
  fun hdist => Does.eql_nil (m := rows.length) rfl rfl ht rfl (fun ρ w z hz => by
    rw [ev_of hx] at hz
    cases hz with
    | nil => exact ⟨none, 0, rfl, fun _ => rfl⟩
    | sl rows a cap => exact ⟨some a, cap, rfl, fun h => by simp at h⟩) fun c hc => ⟨objs, rfl, hdist, hk c fun h => List.eq_nil_of_length_eq_zero (hc h)⟩
theorem BndsO.bothI {len : Nat} (h0 : 0 ≤ i) (h1 : 0 ≤ a) (hy : evO l y = some (.v (.int ki i))) (hz : evO l z = some (.v (.int kj a))) : BndsO l len (some y) (some z) i.toNat a.toNat := .both (by rw [hy, Int.toNat_of_nonneg h0]) (by rw [hz, Int.toNat_of_nonneg h1])
theorem lit_sz {uss : List (List AV)} (h : (uss.all fun cs => cs.length == sz) = true) : ∀ cs ∈ uss, cs.length = sz := fun cs hcs => by simpa using List.all_eq_true.1 h cs hcs
theorem Z.lrc {m : Nat} (k : Nat) (ht : tyOf P t = some (false, sz)) (hx : evO l x = some (.ptr id off)) (h2 : objs[k]? = some (id, .row e 1 rows)) (hoff : off = m * 1) (hrows : ∀ cs ∈ rows, cs.length = 1) (hi : rows[m]? = some (u :: cs)) : QS P n ops H0 ⟨dst, .load t x, ty, ps, af, none⟩ l objs u := QS.ld_row_cell rfl rfl ht hx h2 hoff hrows hi
/-- A call that gives new objects beside the heap. -/
theorem D.cn {cc : Operand} {args : Array Operand} {at_ : Array TypeId} {caps : List AV} {R : AV → List (Nat × Ob) → Prop} (hc : evO l cc = some (.clo f caps)) (ha : argsO l args.toList = some us)
    (h : Dist H0 objs → ACall P f (us ++ caps) (extH H0 objs) (fun u H' => ∃ news, Dist (extH H0 objs) news ∧ H' = extH (extH H0 objs) news ∧ R u news)) (hk : ∀ u news, R u news → K u (news ++ objs)) : DS P n ops H0 ⟨dst, .call { callee := .value cc, args := args, argTypes := at_ }, ty, ps, af, none⟩ l objs K := DS.call_new rfl rfl hc ha h hk
theorem S.sq (h : UW P n (thenA (AW P n c2 Q) Q) H0 c1 l objs) : UW P n Q H0 (.seq c1 c2) l objs := UW.seq h
theorem S.rg {ol : List Oper} (h : US P n ol.toArray Q H0 ol l objs) : UW P n Q H0 (.region id ol.toArray false) l objs := UW.region h
theorem S.cT {cc : Operand} {bb : Bool} (hc : evO l cc = some (.v (.bool bb))) (hb : bb = true) (h : UW P n Q H0 c1 l objs) : UW P n Q H0 (.cond cc c1 c2) l objs := UW.cond hc (fun _ => h) (fun h0 => by rw [hb] at h0; cases h0)
theorem S.cF {cc : Operand} {bb : Bool} (hc : evO l cc = some (.v (.bool bb))) (hb : bb = false) (h : UW P n Q H0 c2 l objs) : UW P n Q H0 (.cond cc c1 c2) l objs := UW.cond hc (fun h0 => by rw [hb] at h0; cases h0) (fun _ => h)
theorem S.cD {cc : Operand} {p : Prop} [Decidable p] (hc : evO l cc = some (.v (.bool (decide p)))) (ht : p → UW P n Q H0 c1 l objs) (hf : ¬ p → UW P n Q H0 c2 l objs) : UW P n Q H0 (.cond cc c1 c2) l objs := UW.cond hc (fun h => ht (of_decide_eq_true h)) (fun h => hf (of_decide_eq_false h))
theorem S.cB {cc : Operand} {bb : Bool} (hc : evO l cc = some (.v (.bool bb))) (ht : bb = true → UW P n Q H0 c1 l objs) (hf : bb = false → UW P n Q H0 c2 l objs) : UW P n Q H0 (.cond cc c1 c2) l objs := UW.cond hc ht hf
/-- A slot is told in another way. -/
theorem US.sl_eq (d : Nat) {u' : AV} (hl : look l d = some u) (he : u = u') (hk : US P n ops Q H0 rest ((d, u') :: l) objs) : US P n ops Q H0 rest l objs := US.slot d hl (by rw [he]; exact Turns.drop (fun _ _ h => h) _) hk
/-- By a truth in a slot. -/
theorem S.tD (d : Nat) {p : Prop} [Decidable p] (ht : p → US P n ops Q H0 rest ((d, .v (.bool true)) :: l) objs) (hf : ¬ p → US P n ops Q H0 rest ((d, .v (.bool false)) :: l) objs) (hl : look l d = some (.v (.bool (decide p))) := by rfl) : US P n ops Q H0 rest l objs := by
  by_cases h : p
  · exact US.sl_eq d hl (by simp [h]) (ht h)
  · exact US.sl_eq d hl (by simp [h]) (hf h)
theorem S.tB (d : Nat) {bb : Bool} (ht : bb = true → US P n ops Q H0 rest ((d, .v (.bool true)) :: l) objs) (hf : bb = false → US P n ops Q H0 rest ((d, .v (.bool false)) :: l) objs) (hl : look l d = some (.v (.bool bb)) := by rfl) : US P n ops Q H0 rest l objs := by
  cases bb with
  | true => exact US.sl_eq d hl rfl (ht rfl)
  | false => exact US.sl_eq d hl rfl (hf rfl)
theorem beq_t {α : Type} [BEq α] [LawfulBEq α] {x y : α} (h : x = y) : (x == y) = true := by simp [h]
theorem beq_f {α : Type} [BEq α] [LawfulBEq α] {x y : α} (h : ¬ x = y) : (x == y) = false := by simpa using h
theorem bne_t {α : Type} [BEq α] [LawfulBEq α] {x y : α} (h : ¬ x = y) : (x != y) = true := by simpa using h
theorem bne_f {α : Type} [BEq α] [LawfulBEq α] {x y : α} (h : x = y) : (x != y) = false := by simp [h]
section
variable {α : Type} [BEq α] [LawfulBEq α] {X Y : α}
theorem S.cE {cc : Operand} (hc : evO l cc = some (.v (.bool (X == Y)))) (ht : X = Y → UW P n Q H0 c1 l objs) (hf : ¬ X = Y → UW P n Q H0 c2 l objs) : UW P n Q H0 (.cond cc c1 c2) l objs := UW.cond hc (fun h => ht (by simpa using h)) (fun h => hf (by simpa using h))
theorem S.cO {cc : Operand} (hc : evO l cc = some (.v (.bool (X != Y)))) (ht : ¬ X = Y → UW P n Q H0 c1 l objs) (hf : X = Y → UW P n Q H0 c2 l objs) : UW P n Q H0 (.cond cc c1 c2) l objs := UW.cond hc (fun h => ht (by simpa using h)) (fun h => hf (by simpa using h))
theorem S.tE (d : Nat) (ht : X = Y → US P n ops Q H0 rest ((d, .v (.bool true)) :: l) objs) (hf : ¬ X = Y → US P n ops Q H0 rest ((d, .v (.bool false)) :: l) objs) (hl : look l d = some (.v (.bool (X == Y))) := by rfl) : US P n ops Q H0 rest l objs := by
  by_cases h : X = Y
  · exact US.sl_eq d hl (by simp [h]) (ht h)
  · exact US.sl_eq d hl (by simp [h]) (hf h)
theorem S.tO (d : Nat) (ht : ¬ X = Y → US P n ops Q H0 rest ((d, .v (.bool true)) :: l) objs) (hf : X = Y → US P n ops Q H0 rest ((d, .v (.bool false)) :: l) objs) (hl : look l d = some (.v (.bool (X != Y))) := by rfl) : US P n ops Q H0 rest l objs := by
  by_cases h : X = Y
  · exact US.sl_eq d hl (by simp [h]) (hf h)
  · exact US.sl_eq d hl (by simp [h]) (ht h)
end
/-- A truth in a slot is known. -/
theorem S.tT (d : Nat) {bb : Bool} (hb : bb = true) (hk : US P n ops Q H0 rest ((d, .v (.bool true)) :: l) objs) (hl : look l d = some (.v (.bool bb)) := by rfl) : US P n ops Q H0 rest l objs := US.sl_eq d hl (by rw [hb]) hk
theorem S.tF (d : Nat) {bb : Bool} (hb : bb = false) (hk : US P n ops Q H0 rest ((d, .v (.bool false)) :: l) objs) (hl : look l d = some (.v (.bool bb)) := by rfl) : US P n ops Q H0 rest l objs := US.sl_eq d hl (by rw [hb]) hk
theorem S.eq (d : Nat) {u' : AV} (he : u = u') (hk : US P n ops Q H0 rest ((d, u') :: l) objs) (hl : look l d = some u := by rfl) : US P n ops Q H0 rest l objs := US.sl_eq d hl he hk
inductive Res1s (P : Program) (T : Sl) (H : Hp) : List ResultVar → List AV → Prop
  | nil : Res1s P T H [] []
  | cons {r : ResultVar} {v : AV} {rs : List ResultVar} {vs : List AV} (h : Res1 P T H r v) (ht : Res1s P T H rs vs) : Res1s P T H (r :: rs) (v :: vs)
theorem res1s_nil {T : Sl} {H : Hp} : Res1s P T H [] [] := .nil
theorem res1s_cons {T : Sl} {H : Hp} {r : ResultVar} {v : AV} {rs : List ResultVar} {vs : List AV} (h : Res1 P T H r v) (ht : Res1s P T H rs vs) : Res1s P T H (r :: rs) (v :: vs) := .cons h ht
theorem Res1s.all {T : Sl} {H : Hp} {rs : List ResultVar} {vs : List AV} (h : Res1s P T H rs vs) : rs.length = vs.length ∧ ∀ (j : Nat) r v, rs[j]? = some r → vs[j]? = some v → Res1 P T H r v := by
  induction h with
  | nil => exact ⟨rfl, fun j r v a => by simp at a⟩
  | cons h ht ih =>
    refine ⟨by simp [ih.1], fun j r v a b => ?_⟩
    cases j with
    | zero => simp at a b; subst a b; exact h
    | succ j => exact ih.2 j r v (by simpa using a) (by simpa using b)
theorem res_many {fn : Func} {rs : List ResultVar} (hf : fn.results = rs.toArray) (hl : rs.length ≠ 1) (hn : rs.length = us.length) (h : Res1s P (ofL l) (extH H0 objs) rs us) : Res P (ofL l) (extH H0 objs) fn (.tup us) :=
  .inr ⟨rs, us, hf, hl, rfl, hn, h.all.2⟩
/-- What a call gives. -/
theorem S.rt {fn : Func} {K' : AV → Hp → Prop} (hr : Dist H0 objs → Res P (ofL l) (extH H0 objs) fn u) (hk : K' u H0) : UQ (RetQ P fn K') H0 .ret l objs := retR [] hr (List.nil_sublist _) fun _ => hk
theorem S.rtR {fn : Func} {r : AV} (hr : Dist H0 objs → Res P (ofL l) (extH H0 objs) fn u) (hu : u = r) : UQ (RetQ P fn (IsR H0 r)) H0 .ret l objs := S.rt hr ⟨hu, rfl⟩
theorem Z.kw {keep : List (Nat × Ob)} (j : Nat) (hK : Has keep objs) (ht : tyOf P t = some (true, sz)) (hx : evO l x = some (.ptr id 0)) (h2 : keep[j]? = some (id, .box e ls)) (hl : ls.length = sz) : QS P n ops H0 ⟨dst, .load t x, ty, ps, af, none⟩ l objs (.agg ls) := by
  obtain ⟨k, hk⟩ := hK.get h2
  exact Z.ldw k ht hx hk hl
theorem Z.kc {keep : List (Nat × Ob)} (j : Nat) (hK : Has keep objs) (ht : tyOf P t = some (false, sz)) (hx : evO l x = some (.ptr id off)) (h2 : keep[j]? = some (id, .box e ls)) (hr : ls[off]? = some u) : QS P n ops H0 ⟨dst, .load t x, ty, ps, af, none⟩ l objs u := by
  obtain ⟨k, hk⟩ := hK.get h2
  exact Z.ldc k ht hx hk hr
theorem Q.mv (hx : evO l x = some u) (hk : US P n ops Q H0 rest ((d, u) :: l) objs) (hn : d < n := by decide) : US P n ops Q H0 (⟨some d, .move x, ty, ps, af, none⟩ :: rest) l objs := S.qu (Z.mv hx) hk hn
theorem Q.as (hx : evO l x = some u) (hk : US P n ops Q H0 rest ((d, u) :: l) objs) (hn : d < n := by decide) : US P n ops Q H0 (⟨some d, .assign x, ty, ps, af, none⟩ :: rest) l objs := S.qu (Z.as hx) hk hn
theorem Q.pk {bb : Bool} {cc : Operand} (hc : evO l cc = some (.v (.bool bb))) (hr : (if bb then evO l x else evO l y) = some r) (hk : US P n ops Q H0 rest ((d, r) :: l) objs) (hn : d < n := by decide) : US P n ops Q H0 (⟨some d, .pick cc x y, ty, ps, af, none⟩ :: rest) l objs := S.qu (Z.pick hc hr) hk hn
theorem Q.bi {op : BinOp} {vr : Value} (hx : evO l x = some (.v (.int ki a))) (hy : evO l y = some (.v (.int ki a'))) (h : iop op ki a a' = some vr) (hk : US P n ops Q H0 rest ((d, .v vr) :: l) objs) (hn : d < n := by decide) : US P n ops Q H0 (⟨some d, .binOp op t x y t2, ty, ps, af, none⟩ :: rest) l objs := S.qu (Z.bi hx hy h) hk hn
theorem Q.lc (k : Nat) (ht : tyOf P t = some (false, sz)) (hx : evO l x = some (.ptr id off)) (h2 : objs[k]? = some (id, .box e ls)) (hr : ls[off]? = some u) (hk : US P n ops Q H0 rest ((d, u) :: l) objs) (hn : d < n := by decide) : US P n ops Q H0 (⟨some d, .load t x, ty, ps, af, none⟩ :: rest) l objs := S.qu (Z.ldc k ht hx h2 hr) hk hn
theorem Q.fa {fl off' : Nat} (h : fieldOf P t fl = some off') (hx : evO l x = some (.ptr id off)) (hk : US P n ops Q H0 rest ((d, .ptr id (off + off')) :: l) objs) (hn : d < n := by decide) : US P n ops Q H0 (⟨some d, .fieldAddr t x fl, ty, ps, af, none⟩ :: rest) l objs := S.qu (Z.fa h hx) hk hn
theorem Q.of {bb b2 : Bool} (hk : US P n ops Q H0 rest ((d, .v undef) :: l) objs) (hdg : (ops[g]?).bind (·.dst) = some f := by rfl) (hT : look l f = some (.v (.bool b2)) := by rfl) (hb : b2 = !bb := by rfl) (hn : d < n := by decide) : US P n ops Q H0 (⟨some d, op, ty, ps, af, some (g, bb)⟩ :: rest) l objs := S.qu (Z.of hdg hT hb) hk hn
theorem Q.ou {bb : Bool} (hk : US P n ops Q H0 rest ((d, .v undef) :: l) objs) (hdg : (ops[g]?).bind (·.dst) = some f := by rfl) (hT : look l f = some (.v undef) := by rfl) (hn : d < n := by decide) : US P n ops Q H0 (⟨some d, op, ty, ps, af, some (g, bb)⟩ :: rest) l objs := S.qu (Z.of2 hdg hT) hk hn
theorem Q.on {bb : Bool} (h : QS P n ops H0 ⟨some d, op, ty, ps, af, none⟩ l objs u) (hk : US P n ops Q H0 rest ((d, u) :: l) objs) (hdg : (ops[g]?).bind (·.dst) = some f := by rfl) (hdn : f < n := by decide) (hT : look l f = some (.v (.bool bb)) := by rfl) (hn : d < n := by decide) : US P n ops Q H0 (⟨some d, op, ty, ps, af, some (g, bb)⟩ :: rest) l objs := S.qu (Z.on h hdg hdn hT) hk hn
theorem Q.nt (h : UW P n Q H0 c l objs) : US P n ops (thenA (AW P n c Q) Q) H0 [] l objs := US.nil (UQ.then h)
theorem Q.rg {ol : List Oper} (h : US P n ol.toArray (thenA (AW P n c2 Q) Q) H0 ol l objs) : UW P n Q H0 (.seq (.region id ol.toArray false) c2) l objs := S.sq (S.rg h)
end
end Go.Eng
end
section
namespace Go.Proofs.YtgmfgmbgmjbdhaaGreatDoor
open Go Go.RowKit Go.Eng
inductive V where
  | mk (k n : Int) (t : ByteArray) (ks : List ByteArray) (vs : List V)
namespace V
def k : V → Int | .mk k _ _ _ _ => k
def n : V → Int | .mk _ n _ _ _ => n
def t : V → ByteArray | .mk _ _ t _ _ => t
def ks : V → List ByteArray | .mk _ _ _ ks _ => ks
def vs : V → List V | .mk _ _ _ _ vs => vs
end V
def encS (s : ByteArray) : List AV := [.v (.string s)]
def strs (l : List ByteArray) : AV := .sl (l.map encS)
mutual
def encV : V → List AV
  | .mk k n t ks vs => [.v (.int .i64 k), .v (.int .i64 n), .v (.string t), .sl (ks.map encS), .sl (encVs vs)]
def encVs : List V → List (List AV)
  | [] => []
  | x :: r => encV x :: encVs r
end
theorem encVs_eq : ∀ l : List V, encVs l = l.map encV
  | [] => by simp [encVs]
  | x :: r => by simp [encVs, encVs_eq r]
theorem encV_len (x : V) : (encV x).length = 5 := by cases x; simp [encV]
theorem encV_cell (x : V) : (encV x).all cellAV = true := by cases x; simp [encV, cellAV, Value.oneCell']
set_option maxRecDepth 100000
section types
theorem ty2 : tyOf Tryz.prog 2 = some (false, 1) := by kernel_rfl
theorem ty3 : tyOf Tryz.prog 3 = some (false, 1) := by kernel_rfl
theorem ty5 : tyOf Tryz.prog 5 = some (false, 1) := by kernel_rfl
theorem ty9 : tyOf Tryz.prog 9 = some (false, 1) := by kernel_rfl
theorem ty23 : tyOf Tryz.prog 23 = some (false, 1) := by kernel_rfl
theorem ty24 : tyOf Tryz.prog 24 = some (false, 1) := by kernel_rfl
theorem ty26 : tyOf Tryz.prog 26 = some (true, 5) := by kernel_rfl
theorem ty22 : tyOf Tryz.prog 22 = some (false, 1) := by kernel_rfl
theorem sl23 : slT Tryz.prog 23 = some (9, 1, 16) := by kernel_rfl
theorem sl24 : slT Tryz.prog 24 = some (26, 5, 80) := by kernel_rfl
theorem sl22 : slT Tryz.prog 22 = some (5, 1, 1) := by kernel_rfl
theorem sl135 : slT Tryz.prog 135 = some (3, 1, 8) := by kernel_rfl
theorem z3 : (Tryz.prog.info? 3).map (·.zero) = some (some (.int .i64 0)) := by kernel_rfl
theorem z5 : (Tryz.prog.info? 5).map (·.zero) = some (some (.int .u8 0)) := by kernel_rfl
theorem z9 : (Tryz.prog.info? 9).map (·.zero) = some (some (.string ⟨#[]⟩)) := by kernel_rfl
theorem z26 : (Tryz.prog.info? 26).map (·.zero) = some (some (.agg #[.int .i64 0, .int .i64 0, .string ⟨#[]⟩, .slice none 0 0, .slice none 0 0])) := by kernel_rfl
theorem row23 : RowT Tryz.prog 23 9 1 16 := ⟨sl23, ⟨_, z9, rfl, rfl⟩, by decide, by decide⟩
theorem row24 : RowT Tryz.prog 24 26 5 80 := ⟨sl24, ⟨_, z26, rfl, rfl⟩, by decide, by decide⟩
theorem row22 : RowT Tryz.prog 22 5 1 1 := ⟨sl22, ⟨_, z5, rfl, rfl⟩, by decide, by decide⟩
theorem row135 : RowT Tryz.prog 135 3 1 8 := ⟨sl135, ⟨_, z3, rfl, rfl⟩, by decide, by decide⟩
theorem f26_0 : fieldOf Tryz.prog 26 0 = some 0 := by kernel_rfl
theorem f26_1 : fieldOf Tryz.prog 26 1 = some 1 := by kernel_rfl
theorem f26_2 : fieldOf Tryz.prog 26 2 = some 2 := by kernel_rfl
theorem f26_3 : fieldOf Tryz.prog 26 3 = some 3 := by kernel_rfl
theorem f26_4 : fieldOf Tryz.prog 26 4 = some 4 := by kernel_rfl
theorem bt26 : builtT Tryz.prog 26 = some ([.int .i64 0, .int .i64 0, .string ⟨#[]⟩, .slice none 0 0, .slice none 0 0], [(0, 1), (1, 1), (2, 1), (3, 1), (4, 1)]) := by kernel_rfl
theorem st26 : ∃ fs, Tryz.prog.underlying 26 = some (.struct fs) := ⟨_, Tryz.underlying26⟩
theorem sz26 : (Tryz.prog.info? 26).map (·.size) = some 5 := by kernel_rfl
end types
end Go.Proofs.YtgmfgmbgmjbdhaaGreatDoor
end
