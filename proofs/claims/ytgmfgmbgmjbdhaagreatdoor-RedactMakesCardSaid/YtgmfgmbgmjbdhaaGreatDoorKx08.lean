/- The engine, tenth part: quiet operations, one by one. -/
import Derived.Test.YtgmfgmbgmjbdhaaGreatDoorKx07
set_option linter.unusedVariables false
namespace Go.Eng
open Go Go.RowKit
set_option linter.unusedSectionVars false
variable [Rd]
section
variable {P : Program} {n : Nat} {ops : Array Oper} {H0 : Hp} {l : List (Nat × AV)} {objs : List (Nat × Ob)} {o : Oper}
variable {x y : Operand} {u : AV} {t e sz b : Nat} {id k : Nat} {cells : List AV} {rows : List (List AV)}
theorem QS.move (hg : o.guard = none) (ho : o.op = .move x) (hx : evO l x = some u) : QS P n ops H0 o l objs u := fun _ => Does.move hg ho ⟨ev_of hx, rfl⟩
theorem QS.assign (hg : o.guard = none) (ho : o.op = .assign x) (hx : evO l x = some u) : QS P n ops H0 o l objs u := fun _ => Does.assign hg ho ⟨ev_of hx, rfl⟩
theorem QS.ld_whole {ls : List AV} (hg : o.guard = none) (ho : o.op = .load t x) (ht : tyOf P t = some (true, sz)) (hx : evO l x = some (.ptr id 0)) (h2 : objs[k]? = some (id, .box e ls)) (hl : ls.length = sz) : QS P n ops H0 o l objs (.agg ls) :=
  fun hdist => Does.load_agg hg ho (ev_of hx) (hdist.at_ h2) ht (by simp [cellsOf, hl]) ⟨by rw [← hl]; simp [cellsOf], rfl⟩
theorem QS.ld_cell {off : Nat} {ls : List AV} (hg : o.guard = none) (ho : o.op = .load t x) (ht : tyOf P t = some (false, sz)) (hx : evO l x = some (.ptr id off)) (h2 : objs[k]? = some (id, .box e ls)) (hr : ls[off]? = some u) : QS P n ops H0 o l objs u :=
  fun hdist => Does.load_cell hg ho (ev_of hx) (hdist.at_ h2) ht hr ⟨rfl, rfl⟩
theorem QS.ld_agg {off : Nat} {ls rs : List AV} (hg : o.guard = none) (ho : o.op = .load t x) (ht : tyOf P t = some (true, sz)) (hx : evO l x = some (.ptr id off)) (h2 : objs[k]? = some (id, .box e ls)) (hr : subO ls off sz = some rs) : QS P n ops H0 o l objs (.agg rs) :=
  fun hdist => Does.load_agg hg ho (ev_of hx) (hdist.at_ h2) ht (subO_eq hr).2 ⟨by rw [← (subO_eq hr).1]; rfl, rfl⟩
theorem QS.load_rp_agg (hg : o.guard = none) (ho : o.op = .load t x) (hx : evO l x = some (.rp cells)) (ht : tyOf P t = some (true, sz)) (hl : cells.length = sz) : QS P n ops H0 o l objs (.agg cells) :=
  fun _ => Does.load_rp_agg hg ho (ev_of hx) (by rw [hl]; exact ht) ⟨rfl, rfl⟩
theorem QS.load_rp_cell {r : List AV} (hg : o.guard = none) (ho : o.op = .load t x) (hx : evO l x = some (.rp (u :: r))) (ht : tyOf P t = some (false, sz)) : QS P n ops H0 o l objs u :=
  fun _ => Does.load_rp_cell hg ho (ev_of hx) ht ⟨rfl, rfl⟩
theorem QS.ld_row_cell {off : Nat} {cs : List AV} (hg : o.guard = none) (ho : o.op = .load t x) (ht : tyOf P t = some (false, sz)) (hx : evO l x = some (.ptr id off)) (h2 : objs[k]? = some (id, .row e 1 rows)) {i : Nat} (hoff : off = i * 1) (hrows : ∀ cs ∈ rows, cs.length = 1) (hi : rows[i]? = some (u :: cs)) : QS P n ops H0 o l objs u := by
  intro hdist
  refine Does.load_cell hg ho (ev_of hx) (hdist.at_ h2) ht ?_ ⟨rfl, rfl⟩
  have h1 := flatten_get 1 (by decide) rows hrows i _ 0 hi (by decide)
  show rows.flatten[off]? = some u
  rw [hoff]
  simpa using h1
theorem QS.fieldAddr {f off off' : Nat} (hg : o.guard = none) (ho : o.op = .fieldAddr t x f) (hx : evO l x = some (.ptr id off)) (h : fieldOf P t f = some off') : QS P n ops H0 o l objs (.ptr id (off + off')) := fun _ => Does.fieldAddr hg ho (ev_of hx) h ⟨rfl, rfl⟩
theorem QS.indexAddr_sl {ki : IntKind} {i : Int} {cs : List AV} (hg : o.guard = none) (ho : o.op = .indexAddr t x y) (ht : slT P t = some (e, sz, b)) (hx : evO l x = some (.sl rows)) (hy : evO l y = some (.v (.int ki i))) (h0 : 0 ≤ i) (h1 : rows[i.toNat]? = some cs) (hs : cs.length = sz) : QS P n ops H0 o l objs (.rp cs) := fun _ => Does.indexAddr_sl hg ho ht (ev_of hx) (ev_of hy) h0 h1 hs ⟨rfl, rfl⟩
theorem QS.indexAddr_own {ki : IntKind} {i : Int} {off len : Nat} (hg : o.guard = none) (ho : o.op = .indexAddr t x y) (ht : slT P t = some (e, sz, b)) (hx : evO l x = some (.own id off len sz)) (hy : evO l y = some (.v (.int ki i))) (h0 : 0 ≤ i) (h1 : i < len) : QS P n ops H0 o l objs (.ptr id ((off + i.toNat) * sz)) := fun _ => Does.indexAddr_own hg ho ht (ev_of hx) (ev_of hy) h0 h1 ⟨rfl, rfl⟩
theorem QS.index_str {ki : IntKind} {i c : Int} {str : ByteArray} (hg : o.guard = none) (ho : o.op = .index t x y) (ht : P.underlying t = some .string) (hx : evO l x = some (.v (.string str))) (hy : evO l y = some (.v (.int ki i))) (h0 : 0 ≤ i) (h1 : i < str.size) (hcc : c = ((str[i.toNat]'(by omega)).toNat : Int)) : QS P n ops H0 o l objs (.v (.int .u8 c)) := fun _ => Does.index_str hg ho ht (ev_of hx) (ev_of hy) h0 h1 hcc ⟨rfl, rfl⟩
theorem QS.slice_sl {lo hi : Option Operand} {a a' : Nat} {rs : List (List AV)} (hg : o.guard = none) (ho : o.op = .slice t x lo hi none) (ht : slT P t = some (e, sz, b)) (hx : evO l x = some (.sl rows)) (hs : ∀ cs ∈ rows, cs.length = sz) (hb : BndsO l rows.length lo hi a a') (h1 : a ≤ a') (h2 : a' ≤ rows.length) (hr : (rows.take a').drop a = rs) : QS P n ops H0 o l objs (.sl rs) := fun _ => Does.slice_sl hg ho ht (ev_of hx) hs hb.to h1 h2 ⟨by rw [hr], rfl⟩
theorem QS.slice_own {lo hi : Option Operand} {a a' off len : Nat} (hg : o.guard = none) (ho : o.op = .slice t x lo hi none) (ht : slT P t = some (e, sz, b)) (hx : evO l x = some (.own id off len sz)) (hb : BndsO l len lo hi a a') (h1 : a ≤ a') (h2 : a' ≤ len) : QS P n ops H0 o l objs (.own id (off + a) (a' - a) sz) := fun _ => Does.slice_own hg ho ht (ev_of hx) hb.to h1 h2 ⟨rfl, rfl⟩
theorem QS.slice_str {lo hi : Option Operand} {a a' : Nat} {str : ByteArray} (hg : o.guard = none) (ho : o.op = .slice t x lo hi none) (ht : P.underlying t = some .string) (hx : evO l x = some (.v (.string str))) (hb : BndsO l str.size lo hi a a') (h1 : a ≤ a') (h2 : a' ≤ str.size) : QS P n ops H0 o l objs (.v (.string (str.extract a a'))) := fun _ => Does.slice_str hg ho ht (ev_of hx) hb.to h1 h2 ⟨rfl, rfl⟩
theorem QS.len_sl (hg : o.guard = none) (ho : o.op = .call { callee := .builtin .len, args := #[x], argTypes := #[t] }) (ht : slT P t = some (e, sz, b)) (hx : evO l x = some (.sl rows)) : QS P n ops H0 o l objs (.v (.int .i64 (rows.length : Int))) := fun _ => Does.len_sl hg ho ht (ev_of hx) ⟨rfl, rfl⟩
theorem QS.len_own {off len : Nat} (hg : o.guard = none) (ho : o.op = .call { callee := .builtin .len, args := #[x], argTypes := #[t] }) (ht : slT P t = some (e, sz, b)) (hx : evO l x = some (.own id off len sz)) : QS P n ops H0 o l objs (.v (.int .i64 (len : Int))) := fun _ => Does.len_own hg ho ht (ev_of hx) ⟨rfl, rfl⟩
theorem QS.len_nil (hg : o.guard = none) (ho : o.op = .call { callee := .builtin .len, args := #[x], argTypes := #[t] }) (ht : slT P t = some (e, sz, b)) (hx : evO l x = some (.v (.slice none 0 0))) : QS P n ops H0 o l objs (.v (.int .i64 0)) := fun _ => Does.len_nil hg ho ht (ev_of hx) ⟨rfl, rfl⟩
theorem QS.len_str {str : ByteArray} (hg : o.guard = none) (ho : o.op = .call { callee := .builtin .len, args := #[x], argTypes := #[t] }) (ht : P.underlying t = some .string) (hx : evO l x = some (.v (.string str))) : QS P n ops H0 o l objs (.v (.int .i64 (str.size : Int))) := fun _ => Does.len_str hg ho ht (ev_of hx) ⟨rfl, rfl⟩
theorem QS.bin_int {op : BinOp} {t2 : Nat} {ki : IntKind} {a c : Int} {r : Value} (hg : o.guard = none) (ho : o.op = .binOp op t x y t2) (hx : evO l x = some (.v (.int ki a))) (hy : evO l y = some (.v (.int ki c))) (h : iop op ki a c = some r) : QS P n ops H0 o l objs (.v r) := fun _ => Does.bin_int hg ho (ev_of hx) (ev_of hy) h ⟨rfl, rfl⟩
theorem QS.add {t2 : Nat} {ki : IntKind} {a c r : Int} (hg : o.guard = none) (ho : o.op = .binOp .add t x y t2) (hx : evO l x = some (.v (.int ki a))) (hy : evO l y = some (.v (.int ki c))) (hr : ki.wrap (a + c) = r) : QS P n ops H0 o l objs (.v (.int ki r)) := QS.bin_int hg ho hx hy (by rw [← hr]; rfl)
theorem QS.sub {t2 : Nat} {ki : IntKind} {a c r : Int} (hg : o.guard = none) (ho : o.op = .binOp .sub t x y t2) (hx : evO l x = some (.v (.int ki a))) (hy : evO l y = some (.v (.int ki c))) (hr : ki.wrap (a - c) = r) : QS P n ops H0 o l objs (.v (.int ki r)) := QS.bin_int hg ho hx hy (by rw [← hr]; rfl)
theorem QS.mul {t2 : Nat} {ki : IntKind} {a c r : Int} (hg : o.guard = none) (ho : o.op = .binOp .mul t x y t2) (hx : evO l x = some (.v (.int ki a))) (hy : evO l y = some (.v (.int ki c))) (hr : ki.wrap (a * c) = r) : QS P n ops H0 o l objs (.v (.int ki r)) := QS.bin_int hg ho hx hy (by rw [← hr]; rfl)
theorem QS.bin_str {op : BinOp} {t2 : Nat} {a c : ByteArray} {r : Bool} (hg : o.guard = none) (ho : o.op = .binOp op t x y t2) (hx : evO l x = some (.v (.string a))) (hy : evO l y = some (.v (.string c))) (h : sop op a c = some r) : QS P n ops H0 o l objs (.v (.bool r)) := fun _ => Does.bin_str hg ho (ev_of hx) (ev_of hy) h ⟨rfl, rfl⟩
theorem QS.bin_cat {t2 : Nat} {a c : ByteArray} (hg : o.guard = none) (ho : o.op = .binOp .add t x y t2) (hx : evO l x = some (.v (.string a))) (hy : evO l y = some (.v (.string c))) (h : a.size + c.size ≤ 9223372036854775807) : QS P n ops H0 o l objs (.v (.string (a ++ c))) := fun _ => Does.bin_cat hg ho (ev_of hx) (ev_of hy) h ⟨rfl, rfl⟩
theorem QS.bool_eql {t2 : Nat} {a c : Bool} (hg : o.guard = none) (ho : o.op = .binOp .eql t x y t2) (ht : P.underlying t = some .bool) (hx : evO l x = some (.v (.bool a))) (hy : evO l y = some (.v (.bool c))) : QS P n ops H0 o l objs (.v (.bool (a == c))) := fun _ => Does.bin_bool_eql hg ho ht (ev_of hx) (ev_of hy) ⟨rfl, rfl⟩
theorem QS.not {a : Bool} (hg : o.guard = none) (ho : o.op = .unOp .not t x) (hx : evO l x = some (.v (.bool a))) : QS P n ops H0 o l objs (.v (.bool (!a))) := fun _ => Does.not hg ho (ev_of hx) ⟨rfl, rfl⟩
theorem QS.conv {s2 : Nat} {ki kj : IntKind} {a r : Int} (hg : o.guard = none) (ho : o.op = .convert t s2 x) (hs : (P.underlying t).isSome = true) (ht : P.underlying s2 = some (.int kj)) (hx : evO l x = some (.v (.int ki a))) (hr : kj.wrap a = r) : QS P n ops H0 o l objs (.v (.int kj r)) := fun _ => Does.conv_int hg ho hs ht (ev_of hx) ⟨by rw [hr], rfl⟩
theorem QS.min2 {at_ : Array TypeId} {ki kj : IntKind} {a c : Int} (hg : o.guard = none) (ho : o.op = .call { callee := .builtin .min, args := #[x, y], argTypes := at_ }) (hx : evO l x = some (.v (.int ki a))) (hy : evO l y = some (.v (.int kj c))) : QS P n ops H0 o l objs (.v (.int ki (if c < a then c else a))) := fun _ => Does.min2 hg ho (ev_of hx) (ev_of hy) ⟨rfl, rfl⟩
theorem QS.build {parts : Array (Nat × Operand)} {zs : List Value} {places : List (Nat × Nat)} {us zus rs : List AV} {uss : List (List AV)} (offs : List Nat) (hg : o.guard = none) (ho : o.op = .build t parts) (ht : builtT P t = some (zs, places)) (hz : zs.all (·.oneCell') = true) (hv : vals zs = some zus)
    (ha : argsO l (parts.toList.map (·.2)) = some us) (hf : flatsO us = some uss) (hc : (uss.all fun cs => cs.all cellAV) = true) (hp : placesOk places (parts.toList.map (·.1)) offs (uss.map (·.length)) = true) (hr : foldO zus offs uss = some rs) : QS P n ops H0 o l objs (.agg rs) := by
  intro _
  have e1 := args_of ha
  have e2 := flatsO_eq hf
  have e3 := foldO_eq hr
  have e4 : (parts.toList.map fun p => ev (ofL l) p.2) = us := by rw [← e1, List.map_map]; rfl
  have hul : us.length = parts.toList.length := by rw [← e4, List.length_map]
  have husl : uss.length = us.length := by rw [← e2, List.length_map]
  refine Does.build offs hg ho ht hz (by rw [e3.2.1, husl, hul]) (fun j p off h1 h2 => ?_) ⟨?_, rfl⟩
  · have h3 : us[j]? = some (ev (ofL l) p.2) := by rw [← e4, List.getElem?_map, h1]; rfl
    have h4 : uss[j]? = some (flat (ev (ofL l) p.2)) := by rw [← e2, List.getElem?_map, h3]; rfl
    refine ⟨List.all_eq_true.1 hc _ (List.mem_of_getElem? h4), ?_, ?_⟩
    · exact placesOk_get hp j p.1 off _ (by rw [List.getElem?_map, h1]; rfl) h2 (by rw [List.getElem?_map, h4]; rfl)
    · have h5 := e3.2.2 j off _ h2 h4
      rw [← vals_eq hv, List.length_map] at h5
      exact h5
  · rw [e4, e2, vals_eq hv, e3.1]
theorem QS.lit_sl {len : Nat} {parts : Array (Nat × Operand)} {us : List AV} {uss : List (List AV)} (hg : o.guard = none) (ho : o.op = .buildSlice t len parts) (ht : RowT P t e sz b) (hl : len * sz ≤ 2 ^ 24)
    (hp : parts.toList.map (·.1) = List.range len) (ha : argsO l (parts.toList.map (·.2)) = some us) (hf : flatsO us = some uss) (hc : ∀ cs ∈ uss, cs.all cellAV = true ∧ cs.length = sz) : QS P n ops H0 o l objs (.sl uss) := by
  intro _
  have e1 := args_of ha
  have e2 := flatsO_eq hf
  have e4 : (parts.toList.map fun p => flat (ev (ofL l) p.2)) = uss := by rw [← e2, ← e1, List.map_map, List.map_map]; rfl
  exact Does.buildSlice_sl hg ho ht hl hp (fun p hp' => hc _ (by rw [← e4]; exact List.mem_map_of_mem (f := fun p => flat (ev (ofL l) p.2)) hp')) ⟨by rw [e4], rfl⟩
/-- A call that gives data and leaves the heap. -/
def IsR (H : Hp) (r : AV) (u : AV) (H' : Hp) : Prop := u = r ∧ H' = H
theorem QS.call {f : Nat} {cc : Operand} {args : Array Operand} {at_ : Array TypeId} {caps us : List AV} {r : AV} (hg : o.guard = none) (ho : o.op = .call { callee := .value cc, args := args, argTypes := at_ }) (hc : evO l cc = some (.clo f caps)) (ha : argsO l args.toList = some us)
    (h : Dist H0 objs → ACall P f (us ++ caps) (extH H0 objs) (IsR (extH H0 objs) r)) : QS P n ops H0 o l objs r :=
  fun hdist => Does.call hg ho (ev_of hc) (by rw [args_of ha]; exact h hdist)
theorem QS.on {g : Nat × Bool} {dg : Nat} (hg : o.guard = some g) (hdg : (ops[g.1]?).bind (·.dst) = some dg) (hdn : dg < n) (hT : look l dg = some (.v (.bool g.2))) (h : QS P n ops H0 { o with guard := none } l objs u) : QS P n ops H0 o l objs u := fun hdist =>
  Does.unguard (h hdist) hg hdg hdn (by unfold ofL; rw [hT]; rfl)
theorem QS.goff {g : Nat × Bool} {dg : Nat} {bb : Bool} (hg : o.guard = some g) (hdg : (ops[g.1]?).bind (·.dst) = some dg) (hT : look l dg = some (.v (.bool bb))) (hb : bb = !g.2) : QS P n ops H0 o l objs (.v undef) := by
  intro hdist a w ρ h1 h2 h3 h4 N Q hN
  have h5 := h4 dg
  have h6 : ofL l dg = .v (.bool bb) := by unfold ofL; rw [hT]; rfl
  rw [h6] at h5
  have h7 := rep_v h5
  have h8 : a.tmps[dg]? = none ∨ a.tmps[dg]? = some (a.tmps.getD dg undef) := by
    rw [Array.getD_eq_getD_getElem?]
    cases h : a.tmps[dg]? <;> simp
  rw [h7] at h8
  have hw : ¬ Region.wanted o (yielded ops a.tmps) = true := by
    rcases h8 with h8 | h8 <;> cases hgb : g.2 <;> simp [Region.wanted, hg, yielded, hdg, h8, hb, hgb]
  rw [if_neg hw]
  exact hN undef w ρ _ _ h3 (Ext.refl _ _ _) (.v undef) ⟨rfl, rfl⟩
theorem QS.goff2 {g : Nat × Bool} {dg : Nat} (hg : o.guard = some g) (hdg : (ops[g.1]?).bind (·.dst) = some dg) (hT : look l dg = some (.v undef)) : QS P n ops H0 o l objs (.v undef) := by
  intro hdist a w ρ h1 h2 h3 h4 N Q hN
  have h5 := h4 dg
  have h6 : ofL l dg = .v undef := by unfold ofL; rw [hT]; rfl
  rw [h6] at h5
  have h7 := rep_v h5
  have h8 : a.tmps[dg]? = none ∨ a.tmps[dg]? = some (a.tmps.getD dg undef) := by
    rw [Array.getD_eq_getD_getElem?]
    cases h : a.tmps[dg]? <;> simp
  rw [h7] at h8
  have hw : ¬ Region.wanted o (yielded ops a.tmps) = true := by
    rcases h8 with h8 | h8 <;> simp [Region.wanted, hg, yielded, hdg, h8, undef]
  rw [if_neg hw]
  exact hN undef w ρ _ _ h3 (Ext.refl _ _ _) (.v undef) ⟨rfl, rfl⟩
/-- Any quiet operation, in the order of the text. -/
theorem US.qs {Q : AEx → Sl → Hp → Prop} {rest : List Oper} {d : Nat} (hd : o.dst = some d) (hn : d < n) (h : QS P n ops H0 o l objs u) (hk : US P n ops Q H0 rest ((d, u) :: l) objs) : US P n ops Q H0 (o :: rest) l objs :=
  US.step hd hn fun hdist => (h hdist).mono fun u' H' ⟨h1, h2⟩ => ⟨objs, h2, hdist, by rw [h1]; exact hk⟩
theorem QS.pick {c : Operand} {bb : Bool} {r : AV} (hg : o.guard = none) (ho : o.op = .pick c x y) (hc : evO l c = some (.v (.bool bb))) (hr : (if bb then evO l x else evO l y) = some r) : QS P n ops H0 o l objs r := fun _ => Does.pick hg ho (ev_of hc) ⟨by cases bb <;> exact ev_of hr, rfl⟩
/-- Quiet, whatever is on the heap. -/
def QF (P : Program) (n : Nat) (ops : Array Oper) (H0 : Hp) (o : Oper) (l : List (Nat × AV)) (u : AV) : Prop := ∀ objs, QS P n ops H0 o l objs u
theorem QF.move (hg : o.guard = none) (ho : o.op = .move x) (hx : evO l x = some u) : QF P n ops H0 o l u := fun objs => QS.move hg ho hx
theorem QF.fieldAddr {f off off' : Nat} (hg : o.guard = none) (ho : o.op = .fieldAddr t x f) (hx : evO l x = some (.ptr id off)) (h : fieldOf P t f = some off') : QF P n ops H0 o l (.ptr id (off + off')) := fun objs => QS.fieldAddr hg ho hx h
theorem QF.indexAddr_sl {ki : IntKind} {i : Int} {cs : List AV} (hg : o.guard = none) (ho : o.op = .indexAddr t x y) (ht : slT P t = some (e, sz, b)) (hx : evO l x = some (.sl rows)) (hy : evO l y = some (.v (.int ki i))) (h0 : 0 ≤ i) (h1 : rows[i.toNat]? = some cs) (hs : cs.length = sz) : QF P n ops H0 o l (.rp cs) := fun objs => QS.indexAddr_sl hg ho ht hx hy h0 h1 hs
theorem QF.slice_sl {lo hi : Option Operand} {a a' : Nat} {rs : List (List AV)} (hg : o.guard = none) (ho : o.op = .slice t x lo hi none) (ht : slT P t = some (e, sz, b)) (hx : evO l x = some (.sl rows)) (hs : ∀ cs ∈ rows, cs.length = sz) (hb : BndsO l rows.length lo hi a a') (h1 : a ≤ a') (h2 : a' ≤ rows.length) (hr : (rows.take a').drop a = rs) : QF P n ops H0 o l (.sl rs) := fun objs => QS.slice_sl hg ho ht hx hs hb h1 h2 hr
theorem QF.slice_own {lo hi : Option Operand} {a a' off len : Nat} (hg : o.guard = none) (ho : o.op = .slice t x lo hi none) (ht : slT P t = some (e, sz, b)) (hx : evO l x = some (.own id off len sz)) (hb : BndsO l len lo hi a a') (h1 : a ≤ a') (h2 : a' ≤ len) : QF P n ops H0 o l (.own id (off + a) (a' - a) sz) := fun objs => QS.slice_own hg ho ht hx hb h1 h2
theorem QF.bin_str {op : BinOp} {t2 : Nat} {a c : ByteArray} {r : Bool} (hg : o.guard = none) (ho : o.op = .binOp op t x y t2) (hx : evO l x = some (.v (.string a))) (hy : evO l y = some (.v (.string c))) (h : sop op a c = some r) : QF P n ops H0 o l (.v (.bool r)) := fun objs => QS.bin_str hg ho hx hy h
def app : List (Nat × AV) → List (Nat × AV) → List (Nat × AV)
  | [], l => l
  | p :: r, l => p :: app r l
def finL : List (Option (Nat × AV)) → List (Nat × AV) → List (Nat × AV)
  | [], l => l
  | none :: r, l => finL r l
  | some p :: r, l => finL r (p :: l)
theorem app_eq : ∀ (a b : List (Nat × AV)), app a b = a ++ b
  | [], _ => rfl
  | p :: r, b => by rw [app, app_eq r b]; rfl
theorem finL_eq : ∀ (a : List (Option (Nat × AV))) (b : List (Nat × AV)), finL a b = (a.filterMap fun q => q).reverse ++ b
  | [], _ => rfl
  | none :: r, b => by rw [finL, finL_eq r b]; rfl
  | some p :: r, b => by rw [finL, finL_eq r (p :: b)]; simp
section
variable {ol : List Oper} {Q : AEx → Sl → Hp → Prop} {B cs k1 : List Nat} {pre r : List (Option (Nat × AV))} {cr : List (Nat × AV)} {i c d : Nat} {u' : AV} {keep : List (Nat × Ob)}
theorem UW.draw' {rid : Nat} (hm : P.follows .mixedOrders = true) (B : List Nat) (ds : List (Option Nat)) (pre : List (Option (Nat × AV))) (cs k1 : List Nat) (hpre : (pre.map fun o => o.map (·.1)) = ds) (he : edgesOk B ol 0 = true) (hch : chainOk B ds cs k1 (dstsOf ol) = true)
    (hq : QAll P n ol H0 objs B k1 pre l [] pre 0) (hk : CH P n ol Q H0 B pre l [] cs [] objs) : UW P n Q H0 (.region rid ol.toArray true) l objs := UW.draw hm B pre cs k1 he (by rw [hpre]; exact hch) hq hk
/-- Some objects. -/
def pick {α : Type} (r : List α) : List Nat → List α
  | [] => []
  | k :: ks => match r[k]? with
    | some p => p :: pick r ks
    | none => pick r ks
/-- The same, where some objects stand all the way. -/
theorem UW.drawk {rid : Nat} (hm : P.follows .mixedOrders = true) (kp : List Nat) (B : List Nat) (ds : List (Option Nat)) (pre : List (Option (Nat × AV))) (cs k1 : List Nat) (hpre : (pre.map fun o => o.map (·.1)) = ds) (he : edgesOk B ol 0 = true) (hch : chainOk B ds cs k1 (dstsOf ol) = true)
    (hq : QAll P n ol H0 objs B k1 pre l (pick objs kp) pre 0) (hk : CH P n ol Q H0 B pre l (pick objs kp) cs [] objs) : UW P n Q H0 (.region rid ol.toArray true) l objs := UW.draw hm B pre cs k1 he (by rw [hpre]; exact hch) hq hk
theorem extH_swap {i j : Nat} {a b : Ob} {r : List (Nat × Ob)} (h : i ≠ j) : extH H0 ((i, a) :: (j, b) :: r) = extH H0 ((j, b) :: (i, a) :: r) := by
  funext k
  simp only [extH, set]
  by_cases hi : k = i
  · by_cases hj : k = j
    · omega
    · simp [hi, h]
  · simp [hi]
theorem dist_swap {i j : Nat} {a b : Ob} {r : List (Nat × Ob)} (h : Dist H0 ((i, a) :: (j, b) :: r)) : i ≠ j ∧ Dist H0 ((j, b) :: (i, a) :: r) := by
  cases h with
  | cons h1 h2 =>
    cases h2 with
    | cons h3 h4 =>
      have hij : i ≠ j := fun e => by subst e; simp [extH] at h1
      have h5 : extH H0 r i = none := by
        have h1' := h1
        simp only [extH] at h1'
        rw [set_ne _ _ hij] at h1'
        exact h1'
      refine ⟨hij, .cons ?_ (.cons h5 h4)⟩
      simp only [extH]
      rw [set_ne _ _ (Ne.symm hij)]
      exact h3
/-- The first two objects change their places. -/
theorem UQ.swap {Q : AEx → Sl → Hp → Prop} {e : AEx} {l : List (Nat × AV)} {p q : Nat × Ob} {r : List (Nat × Ob)} (h : UQ Q H0 e l (q :: p :: r)) : UQ Q H0 e l (p :: q :: r) := fun hd => by
  obtain ⟨h1, h2⟩ := dist_swap hd
  rw [extH_swap h1]
  exact h h2
/-- The same, where the first two of the chain may come in either order. -/
theorem UW.drawk2 {rid : Nat} (hm : P.follows .mixedOrders = true) (kp : List Nat) (B : List Nat) (ds : List (Option Nat)) (pre : List (Option (Nat × AV))) (cs cs2 k1 : List Nat) (hpre : (pre.map fun o => o.map (·.1)) = ds) (he : edgesOk B ol 0 = true) (hch : chainOkW B ds cs k1 (dstsOf ol) = true) (hch2 : chainOkW B ds cs2 k1 (dstsOf ol) = true) (hh : headOk B [cs, cs2] = true)
    (hq : QAll P n ol H0 objs B k1 pre l (pick objs kp) pre 0) (hk : CH P n ol Q H0 B pre l (pick objs kp) cs [] objs) (hk2 : CH P n ol Q H0 B pre l (pick objs kp) cs2 [] objs) : UW P n Q H0 (.region rid ol.toArray true) l objs := by
  subst hpre
  refine UW.draws hm B pre [cs, cs2] cs k1 (by simp) he (fun c hc => ?_) (headOk_get hh) hq (fun c hc => ?_)
  · rcases List.mem_cons.1 hc with rfl | hc
    · exact Chain.ofW hch
    · rw [List.mem_singleton.1 hc]; exact Chain.ofW hch2
  · rcases List.mem_cons.1 hc with rfl | hc
    · exact hk
    · rw [List.mem_singleton.1 hc]; exact hk2
theorem QAll.nil : QAll P n ol H0 objs B k1 pre l keep [] i := trivial
theorem QAll.skip (h : QAll P n ol H0 objs B k1 pre l keep r (i + 1)) : QAll P n ol H0 objs B k1 pre l keep (none :: r) i := h
theorem QAll.free (hn : d < n) (ho : ol[i]? = some o) (hk : k1.contains i = false) (hq : QF P n ol.toArray H0 o (lmin B (dstsOf ol) pre [] l i) u) (h : QAll P n ol H0 objs B k1 pre l keep r (i + 1)) : QAll P n ol H0 objs B k1 pre l keep (some (d, u) :: r) i :=
  ⟨⟨hn, o, ho, by rw [if_neg (by simpa using hk)]; exact fun objs _ => hq objs⟩, h⟩
/-- Quiet while some objects stand. -/
def QK (P : Program) (n : Nat) (ops : Array Oper) (H0 : Hp) (o : Oper) (l : List (Nat × AV)) (keep : List (Nat × Ob)) (u : AV) : Prop := ∀ objs, Has keep objs → QS P n ops H0 o l objs u
theorem QAll.kept (hn : d < n) (ho : ol[i]? = some o) (hk : k1.contains i = false) (hq : QK P n ol.toArray H0 o (lmin B (dstsOf ol) pre [] l i) keep u) (h : QAll P n ol H0 objs B k1 pre l keep r (i + 1)) : QAll P n ol H0 objs B k1 pre l keep (some (d, u) :: r) i :=
  ⟨⟨hn, o, ho, by rw [if_neg (by simpa using hk)]; exact hq⟩, h⟩
theorem QAll.held (hn : d < n) (ho : ol[i]? = some o) (hk : k1.contains i = true) (hq : QS P n ol.toArray H0 o (lmin B (dstsOf ol) pre [] l i) objs u) (h : QAll P n ol H0 objs B k1 pre l keep r (i + 1)) : QAll P n ol H0 objs B k1 pre l keep (some (d, u) :: r) i :=
  ⟨⟨hn, o, ho, by rw [if_pos (by simpa using hk)]; exact hq⟩, h⟩
/-- One operation of the chain. -/
def DS (P : Program) (n : Nat) (ops : Array Oper) (H0 : Hp) (o : Oper) (l : List (Nat × AV)) (objs : List (Nat × Ob)) (K : AV → List (Nat × Ob) → Prop) : Prop :=
  Dist H0 objs → Does P n ops o (ofL l) (extH H0 objs) (fun u H' => ∃ objs', H' = extH H0 objs' ∧ Dist H0 objs' ∧ K u objs')
theorem CH.nil (h : UQ Q H0 .normal (app cr (finL pre l)) objs) (hs : Has keep objs := by exact .n) : CH P n ol Q H0 B pre l keep [] cr objs := by
  rw [app_eq, finL_eq] at h; exact ⟨hs, h⟩
theorem CH.cons (ho : ol[c]? = some o) (hd : o.dst = some d) (hn : d < n) (h : DS P n ol.toArray H0 o (lmin B (dstsOf ol) pre cr l c) objs (fun u objs' => CH P n ol Q H0 B pre l keep cs ((d, u) :: cr) objs')) (hs : Has keep objs := by exact .n) : CH P n ol Q H0 B pre l keep (c :: cs) cr objs :=
  ⟨hs, o, ho, fun d' hd' => (by rw [hd] at hd'; cases hd'; exact hn), by rw [hd]; exact h⟩
theorem CH.cons0 (ho : ol[c]? = some o) (hd : o.dst = none) (h : DS P n ol.toArray H0 o (lmin B (dstsOf ol) pre cr l c) objs (fun _ objs' => CH P n ol Q H0 B pre l keep cs cr objs')) (hs : Has keep objs := by exact .n) : CH P n ol Q H0 B pre l keep (c :: cs) cr objs :=
  ⟨hs, o, ho, fun d' hd' => (by rw [hd] at hd'; cases hd'), by rw [hd]; exact h⟩
end
section
variable {K : AV → List (Nat × Ob) → Prop} {off : Nat}
theorem DS.qs (h : QS P n ops H0 o l objs u) (hk : K u objs) : DS P n ops H0 o l objs K := fun hdist => (h hdist).mono fun _ _ ⟨h1, h2⟩ => ⟨objs, h2, hdist, by rw [h1]; exact hk⟩
theorem DS.st_box {ls ls' : List AV} {objs' : List (Nat × Ob)} {bb : Bool} (hg : o.guard = none) (ho : o.op = .store t x y) (ht : tyOf P t = some (bb, sz)) (hx : evO l x = some (.ptr id off)) (h2 : objs[k]? = some (id, .box e ls)) (hy : evO l y = some u) (hf : flatO u = some cells) (hc : cells.all cellAV = true)
    (hl : cells.length = sz) (hr : setO ls off cells = some ls') (hob : objs.set k (id, .box e ls') = objs') (hk : ∀ u, K u objs') : DS P n ops H0 o l objs K := by
  subst hob
  exact fun hdist => Does.store_box hg ho (ev_of hx) (hdist.at_ h2) (by rw [ev_of hy, flat_of hf]; exact hc) (by rw [ev_of hy, flat_of hf, hl]; exact ht) (by rw [ev_of hy, flat_of hf]; exact (setO_eq hr).2)
    ⟨_, by rw [ev_of hy, flat_of hf, (setO_eq hr).1]; exact (hdist.set_ _ h2).1, (hdist.set_ _ h2).2, hk _⟩
theorem DS.st_whole {ls : List AV} {objs' : List (Nat × Ob)} {bb : Bool} (hg : o.guard = none) (ho : o.op = .store t x y) (ht : tyOf P t = some (bb, sz)) (hx : evO l x = some (.ptr id 0)) (h2 : objs[k]? = some (id, .box e ls)) (hls : ls.length = sz) (hy : evO l y = some u) (hf : flatO u = some cells) (hc : cells.all cellAV = true)
    (hl : cells.length = sz) (hob : objs.set k (id, .box e cells) = objs') (hk : ∀ u, K u objs') : DS P n ops H0 o l objs K := by
  subst hob
  exact fun hdist => Does.store_box hg ho (ev_of hx) (hdist.at_ h2) (by rw [ev_of hy, flat_of hf]; exact hc) (by rw [ev_of hy, flat_of hf, hl]; exact ht) (by rw [ev_of hy, flat_of hf, hls]; omega)
    ⟨_, by rw [ev_of hy, flat_of hf, setL_whole cells ls (by rw [hl, hls])]; exact (hdist.set_ _ h2).1, (hdist.set_ _ h2).2, hk _⟩
theorem DS.store_row {i : Nat} {bb : Bool} (hg : o.guard = none) (ho : o.op = .store t x y) (hx : evO l x = some (.ptr id off)) (h2 : objs[k]? = some (id, .row e sz rows)) (hoff : off = i * sz) (hi : i < rows.length) (hy : evO l y = some u) (hf : flatO u = some cells) (hc : cells.all cellAV = true)
    (ht : tyOf P t = some (bb, sz)) (hl : cells.length = sz) (hz : 0 < sz) (hrows : ∀ cs ∈ rows, cs.length = sz)
    (hk : ∀ u, K u (objs.set k (id, .row e sz (rows.set i cells)))) : DS P n ops H0 o l objs K :=
  fun hdist => Does.store_row (rows.set i cells) hg ho (ev_of hx) (hdist.at_ h2) (by rw [ev_of hy, flat_of hf]; exact hc) (by rw [ev_of hy, flat_of hf, hl]; exact ht)
    (by rw [ev_of hy, flat_of hf, hl, hoff, flatten_len sz _ hrows, ← Nat.succ_mul]; exact Nat.mul_le_mul_right _ hi)
    (by rw [ev_of hy, flat_of hf, hoff]; exact flatten_set sz hz rows hrows i cells hi hl) (by simp) (fun cs hcs => by
      rcases List.mem_or_eq_of_mem_set hcs with h1 | h1
      · exact hrows cs h1
      · rw [h1, hl])
    ⟨_, (hdist.set_ _ h2).1, (hdist.set_ _ h2).2, hk _⟩
theorem DS.append_own {s : Operand} {len : Nat} {news rs : List (List AV)} (hg : o.guard = none) (ho : o.op = .call { callee := .builtin .append, args := #[s, x], argTypes := #[t, t] }) (ht : RowT P t e sz b)
    (hs : evO l s = some (.own id 0 len sz)) (h2 : objs[k]? = some (id, .row e sz rows)) (hle : len ≤ rows.length) (hx : evO l x = some u) (hsrc : SrcO objs sz u news) (hb : (len + news.length) * b ≤ 140737488355328) (hr : rows.take len ++ news = rs)
    (hk : ∀ id', K (.own id' 0 (len + news.length) sz) ((id', .row e sz rs) :: objs.eraseIdx k)) : DS P n ops H0 o l objs K :=
  fun hdist => by
    have hkill := hdist.kill h2
    refine Does.append_own hg ho ht (ev_of hs) (hdist.at_ h2) hle (by rw [ev_of hx]; exact hsrc.to hdist) hb fun id' hid => ⟨(id', .row e sz rs) :: objs.eraseIdx k, ?_, ?_, hk id'⟩
    · rw [hkill.1, hr]; rfl
    · refine .cons ?_ hkill.2
      rw [← hkill.1]
      by_cases h : id' = id
      · subst h; simp
      · rw [set_ne _ _ h]; exact hid
theorem DS.append_nil {s : Operand} {news : List (List AV)} (hg : o.guard = none) (ho : o.op = .call { callee := .builtin .append, args := #[s, x], argTypes := #[t, t] }) (ht : RowT P t e sz b)
    (hs : evO l s = some (.v (.slice none 0 0))) (hx : evO l x = some u) (hsrc : SrcO objs sz u news) (hb : news.length * b ≤ 140737488355328)
    (hk : ∀ id', K (.own id' 0 news.length sz) ((id', .row e sz news) :: objs)) : DS P n ops H0 o l objs K :=
  fun hdist => Does.append_nil hg ho ht (ev_of hs) (by rw [ev_of hx]; exact hsrc.to hdist) hb fun id' hid => ⟨_, rfl, .cons hid hdist, hk id'⟩
theorem DS.call {f : Nat} {cc : Operand} {args : Array Operand} {at_ : Array TypeId} {caps us : List AV} {J : AV → Hp → Prop} (hg : o.guard = none) (ho : o.op = .call { callee := .value cc, args := args, argTypes := at_ }) (hc : evO l cc = some (.clo f caps)) (ha : argsO l args.toList = some us)
    (h : Dist H0 objs → ACall P f (us ++ caps) (extH H0 objs) J) (hk : ∀ u H', J u H' → ∃ objs', H' = extH H0 objs' ∧ (Dist H0 objs → Dist H0 objs') ∧ K u objs') : DS P n ops H0 o l objs K :=
  fun hdist => Does.call hg ho (ev_of hc) (by
    rw [args_of ha]
    exact (h hdist).mono fun u H' hK => by
      obtain ⟨objs', e1, e2, e3⟩ := hk u H' hK
      exact ⟨objs', e1, e2 hdist, e3⟩)
theorem extH_app : ∀ (news objs : List (Nat × Ob)), extH (extH H0 objs) news = extH H0 (news ++ objs)
  | [], _ => rfl
  | (i, ob) :: r, objs => by show set _ _ _ = set _ _ _; rw [extH_app r objs]; rfl
theorem Dist.app {objs : List (Nat × Ob)} (hdist : Dist H0 objs) : ∀ {news : List (Nat × Ob)}, Dist (extH H0 objs) news → Dist H0 (news ++ objs)
  | _, .nil => hdist
  | _, .cons h1 h2 => .cons ((congrFun (extH_app (H0 := H0) _ objs) _).symm.trans h1) (Dist.app hdist h2)
theorem DS.call_new {f : Nat} {cc : Operand} {args : Array Operand} {at_ : Array TypeId} {caps us : List AV} {R : AV → List (Nat × Ob) → Prop} (hg : o.guard = none) (ho : o.op = .call { callee := .value cc, args := args, argTypes := at_ }) (hc : evO l cc = some (.clo f caps)) (ha : argsO l args.toList = some us)
    (h : Dist H0 objs → ACall P f (us ++ caps) (extH H0 objs) (fun u H' => ∃ news, Dist (extH H0 objs) news ∧ H' = extH (extH H0 objs) news ∧ R u news)) (hk : ∀ u news, R u news → K u (news ++ objs)) : DS P n ops H0 o l objs K :=
  DS.call hg ho hc ha h (fun u H' ⟨news, h1, h2, h3⟩ => ⟨news ++ objs, by rw [h2, extH_app], fun hdist => hdist.app h1, hk u news h3⟩)
theorem DS.on {g : Nat × Bool} {dg : Nat} (hg : o.guard = some g) (hdg : (ops[g.1]?).bind (·.dst) = some dg) (hdn : dg < n) (hT : look l dg = some (.v (.bool g.2))) (h : DS P n ops H0 { o with guard := none } l objs K) : DS P n ops H0 o l objs K := fun hdist =>
  Does.unguard (h hdist) hg hdg hdn (by unfold ofL; rw [hT]; rfl)
end
theorem US.min2' {Q : AEx → Sl → Hp → Prop} {rest : List Oper} {d : Nat} {at_ : Array TypeId} {ki kj : IntKind} {a c r : Int} (hd : o.dst = some d) (hn : d < n) (hg : o.guard = none) (ho : o.op = .call { callee := .builtin .min, args := #[x, y], argTypes := at_ }) (hx : evO l x = some (.v (.int ki a))) (hy : evO l y = some (.v (.int kj c))) (hr : (if c < a then c else a) = r)
    (hk : US P n ops Q H0 rest ((d, .v (.int ki r)) :: l) objs) : US P n ops Q H0 (o :: rest) l objs := US.min2 hd hn hg ho hx hy (by rw [hr]; exact hk)
end
end Go.Eng
