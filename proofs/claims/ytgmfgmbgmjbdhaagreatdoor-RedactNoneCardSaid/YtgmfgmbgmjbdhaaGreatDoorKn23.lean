/- Contracts of the library's functions, in the engine's words. · The document's answers of layer 2: what they compute. · The document's answers of layer 2: what they compute: Right. · The document's answers of layer 2: what they compute: places, reading, putting in, taking out. · The document's answers of layer 2: what they compute: With, Str, Num, Texts. -/
import Derived.Test.YtgmfgmbgmjbdhaaGreatDoorKn21
import Derived.Test.YtgmfgmbgmjbdhaaGreatDoorKn22
import Derived.Lib.ItoaLen
import Derived.Test.YtgmfgmbgmjbdhaaGreatDoorKn20
section
namespace Go.Proofs.YtgmfgmbgmjbdhaaGreatDoor
open Go Go.RowKit Go.Eng
set_option linter.unusedSimpArgs false
set_option linter.unusedVariables false
set_option maxRecDepth 100000
set_option maxHeartbeats 4000000
/-- A table of the library stands in the heap. -/
def TabAt (H : Hp) (i : Nat) (name : String) (k : IntKind) (zs : List Int) : Prop := ∃ g t p, Tryz.prog.globalNamed name = some g ∧ H i = some (.raw g (.cells (zs.map fun z => Value.int k z).toArray t p))
def Glob (H : Hp) : Prop := TabAt H 0 "internal/strconv.uint64pow10" .u64 Lib.pow10Tab ∧ TabAt H 1 "strings.asciiSpace" .u8 Lib.asciiSpaceTab
theorem TabAt.tab {H : Hp} {i : Nat} {name : String} {k : IntKind} {zs : List Int} (h : TabAt H i name k zs) {ρ : Rho} {w : World} (hh : HRel ρ H w) : Lib.TabIs Tryz.prog w name k zs := by
  obtain ⟨g, t, p, h1, h2⟩ := h
  unfold Lib.TabIs World.var?
  rw [h1]
  simp only [Option.bind_some, hh.raw h2]
theorem TabAt.mono {H H' : Hp} {i : Nat} {name : String} {k : IntKind} {zs : List Int} (h : TabAt H i name k zs) (hs : Sub H H') : TabAt H' i name k zs := by
  obtain ⟨g, t, p, h1, h2⟩ := h
  exact ⟨g, t, p, h1, hs _ _ h2⟩
theorem Glob.mono {H H' : Hp} (h : Glob H) (hs : Sub H H') : Glob H' := ⟨h.1.mono hs, h.2.mono hs⟩
theorem Glob.low {H : Hp} (h : Glob H) : Glob (low H) := by
  obtain ⟨⟨g, t, p, h1, h2⟩, g', t', p', h3, h4⟩ := h
  exact ⟨⟨g, t, p, h1, h2⟩, g', t', p', h3, h4⟩
theorem Glob.raw {H : Hp} (h : Glob H) : RawH (Go.Eng.low H) := by
  obtain ⟨⟨g, t, p, h1, h2⟩, g', t', p', h3, h4⟩ := h
  intro i ob hi
  unfold Go.Eng.low at hi
  split at hi
  · rename_i hlt
    have : i = 0 ∨ i = 1 := by omega
    rcases this with rfl | rfl
    · rw [h2] at hi; cases hi; exact ⟨_, _, rfl⟩
    · rw [h4] at hi; cases hi; exact ⟨_, _, rfl⟩
  · cases hi
theorem Glob.ext {H : Hp} (h : Glob H) {news : List (Nat × Ob)} (hd : Dist H news) : Glob (extH H news) := h.mono (ext_sub hd)
def decB (n : Int) : ByteArray := ⟨(Lib.itoa n).toArray⟩
theorem decB_size (n : Int) (h0 : -9223372036854775808 ≤ n) (h1 : n ≤ 9223372036854775807) : (decB n).size ≤ 21 := Lib.itoa_length_le n h0 h1
theorem formatInt0_spec (n : Int) (h0 : -9223372036854775808 ≤ n) (h1 : n ≤ 9223372036854775807) (H : Hp) (hG : Glob H) : ACall Tryz.prog 116 [.v (.int .i64 n), .v (.int .i64 10)] H (IsR H (.v (.string (decB n)))) :=
  ACall.of_calls ⟨_, Tryz.func116, by kernel_rfl, by kernel_rfl⟩ fun ρ w vals hh hr => by
    obtain ⟨hl, hr⟩ := hr
    match vals, hl, hr with
    | [a, b], hl, hr =>
      have e1 := rep_v (hr 0 _ _ rfl rfl)
      have e2 := rep_v (hr 1 _ _ rfl rfl)
      subst e1 e2
      refine (Tryz.internal_strconv_FormatInt_10 n h0 h1 w (hG.1.tab hh)).mono ?_
      rintro e w' ⟨he, k, os, rfl⟩
      exact ⟨he, rfl, rfl, rfl, by show w.heap.size ≤ (w.heap ++ os).size; simp, fun k hk => by show (w.heap ++ os)[k]? = _; rw [Array.getElem?_append_left hk]⟩
theorem formatInt_spec (n : Int) (h0 : -9223372036854775808 ≤ n) (h1 : n ≤ 9223372036854775807) (H : Hp) (hG : Glob H) : ACall Tryz.prog 79 [.v (.int .i64 n), .v (.int .i64 10)] H (IsR H (.v (.string (decB n)))) := by
  refine UCall (n := 8) (H0 := H) (objs := []) Tryz.func79 (by kernel_rfl) rfl (by rw [Tryz.ntmps79]; rfl) .nil ?_
  refine S.sq (S.rg ?_)
  refine S.qu (Z.as rfl) ?_
  refine US.nil (UQ.then (S.sq (S.rg ?_)))
  refine S.qu (Z.mv rfl) ?_
  refine S.qu (Z.mv rfl) ?_
  refine S.qu (Z.callg rfl rfl (fun _ hS => formatInt0_spec n h0 h1 _ (hG.mono hS))) ?_
  refine S.qu (Z.as rfl) ?_
  refine US.nil (UQ.then (UW.ret ?_))
  refine S.rtR (fun _ => res_tmp rfl rfl) ?_
  rfl
def truthB (b : Bool) : ByteArray := ⟨(Lib.formatBool b).toArray⟩
theorem formatBool_spec (b : Bool) (H : Hp) : ACall Tryz.prog 78 [.v (.bool b)] H (IsR H (.v (.string (truthB b)))) :=
  ACall.of_calls ⟨_, Tryz.func78, by kernel_rfl, by kernel_rfl⟩ fun ρ w vals hh hr => by
    obtain ⟨hl, hr⟩ := hr
    match vals, hl, hr with
    | [a], hl, hr =>
      have e1 := rep_v (hr 0 _ _ rfl rfl)
      subst e1
      refine (Tryz.strconv_FormatBool b w).mono ?_
      rintro e w' ⟨he, rfl⟩
      exact ⟨he, Below.refl _ _⟩
def joinB (l : List ByteArray) (sep : ByteArray) : ByteArray := ⟨(Lib.join (l.map (·.data.toList)) sep.data.toList).toArray⟩
theorem encS_flat : ∀ l : List ByteArray, (l.map encS).flatten = l.map fun s => .v (.string s)
  | [] => rfl
  | a :: r => by rw [List.map_cons, List.flatten_cons, encS_flat r]; rfl
theorem joinOwn_spec (l : List ByteArray) (sep : ByteArray) (hl : l.length ≤ 140737488355328) (hb : (joinB l sep).size ≤ 140737488355328) (i len : Nat) (hle : len = l.length) (H : Hp) (hi : H i = some (.row 9 1 (l.map encS))) : ACall Tryz.prog 117 [.own i 0 len 1, .v (.string sep)] H (IsR H (.v (.string (joinB l sep)))) :=
  ACall.of_calls ⟨_, Tryz.func117, by kernel_rfl, by kernel_rfl⟩ fun ρ w vals hh hr => by
    subst hle
    obtain ⟨hl0, hr⟩ := hr
    match vals, hl0, hr with
    | [a, b], hl0, hr =>
      have e1 := hr 0 _ _ rfl rfl
      have e2 := rep_v (hr 1 _ _ rfl rfl)
      subst e2
      obtain ⟨v, hv, hz, inner, how, hrl, hc⟩ := hh.ob _ _ hi
      have hnone : ∀ a c, l.length = 0 → Calls Tryz.prog 117 #[.slice a 0 c, .string sep] w fun e w' => e = .returned (.string (joinB l sep)) ∧ Below w.heap.size w w' := fun a c h0 => by
        have : l = [] := List.eq_nil_of_length_eq_zero h0
        subst this
        exact (Tryz.strings_Join_none a c sep w).mono fun e w' ⟨he, hw⟩ => ⟨he, hw ▸ Below.refl _ _⟩
      generalize hll : l.length = ll at e1 ⊢
      cases e1 with
      | own0 _ _ h => exact hnone none 0 (by assumption)
      | ownE _ _ _ g n cap off' cap' h h0 hm => exact hnone _ _ (by omega)
      | own _ _ _ _ g n cap h hcap hmax =>
        rw [hv] at h; cases h
        rcases how.2 with ⟨h7, h8⟩ | ⟨g', cap', cur, h7, _, hg', h8, h9, h10, h11⟩
        · cases h7
        cases h7
        subst hll
        rw [List.length_map] at h11
        rw [List.length_map] at h8
        rw [show ([Value.slice (some ⟨g, 0 * 1, none⟩) l.length (cap - 0), Value.string sep] : List Value).toArray = #[.slice (some ⟨g, 0, none⟩) l.length (cap - 0), .string sep] from rfl]
        refine Tryz.strings_Join g 0 (cap - 0) l sep w (fun j x hj => ?_) (Array.getElem?_eq_some_iff.1 hg').1 hl (by omega) hb
        have hjl := (List.getElem?_eq_some_iff.1 hj).1
        have hfl := encS_flat l
        have h12 := hc.1
        rw [hfl, List.length_map] at h12
        have h13 := (hc.2 j (.v (.string x)) (inner[j]'(by omega)) (by rw [hfl, List.getElem?_map, hj]; rfl) (List.getElem?_eq_getElem (by omega))).1
        have h14 : cur.toList[j]? = some (.string x) := by
          have : (cur.toList.take (l.length * 1))[j]? = some (.string x) := by rw [h11, List.getElem?_eq_getElem (by omega), rep_v h13]
          rw [List.getElem?_take, if_pos (by omega)] at this
          exact this
        simp only [World.cell?, hg', Nat.zero_add]
        simpa using h14
end Go.Proofs.YtgmfgmbgmjbdhaaGreatDoor
end
section
namespace Go.Proofs.YtgmfgmbgmjbdhaaGreatDoor
open Go Go.RowKit Go.Eng
set_option linter.unusedSimpArgs false
set_option linter.unusedVariables false
set_option maxRecDepth 100000
theorem sameR_spec (x : V) (hx : Fits x) : ∀ (y : V) (H : Hp), ACall Tryz.prog 18 [.agg (encV x), .agg (encV y)] H (IsR H (.v (.bool (sameV x y)))) := by
  induction hx with
  | mk k n t ks vs h1 h2 h ih =>
  rintro ⟨k', n', t', ks', vs'⟩ H
  have hvl := encVs_len vs
  have hvl' := encVs_len vs'
  refine UCall (n := 61) (H0 := H) (objs := []) Tryz.func18 (by kernel_rfl) rfl (by rw [Tryz.ntmps18]; rfl) .nil <| ?_
  refine Q.rg <| S.dd <| D.box rfl rfl rfl fun p2 => S.dd <| D.box rfl rfl rfl fun p3 => Q.as rfl <| Q.nt <| S.sq <| Q.rg <| Q.fa f26_0 rfl <| Q.lc 1 ty3 rfl rfl rfl <| Q.fa f26_0 rfl <| Q.lc 0 ty3 rfl rfl rfl <| Q.bi rfl rfl rfl <| Q.mv rfl <| ?_
  refine S.tO 11 (fun hc11 => ?_) (fun hc11 => ?_)
  refine Q.of <| Q.of <| Q.of <| Q.of <| Q.of <| Q.pk rfl rfl <| Q.mv rfl <| Q.of <| Q.of <| Q.of <| Q.of <| Q.of <| Q.pk rfl rfl <| Q.mv rfl <| Q.of <| Q.of <| Q.of <| Q.of <| Q.of <| Q.of <| Q.pk rfl rfl <| Q.mv rfl <| Q.of <| Q.of <| Q.of <| Q.of <| Q.of <| Q.of <| Q.of <| Q.pk rfl rfl <| Q.nt <| S.cT rfl rfl <| Q.rg <| Q.as rfl <| Q.nt <| UW.ret <| UQ.passR <| S.rtR (fun _ => res_tmp rfl rfl) <| ?_
  focus (rw [sameV]; simp_all [eqT]; done)
  refine Q.on (Z.fa f26_1 rfl) <| Q.on (Z.ldc 1 ty2 rfl rfl rfl) <| Q.on (Z.fa f26_1 rfl) <| Q.on (Z.ldc 0 ty2 rfl rfl rfl) <| Q.on (Z.bi rfl rfl rfl) <| Q.pk rfl rfl <| Q.mv rfl <| ?_
  refine S.tO 18 (fun hc18 => ?_) (fun hc18 => ?_)
  refine Q.of <| Q.of <| Q.of <| Q.of <| Q.of <| Q.pk rfl rfl <| Q.mv rfl <| Q.of <| Q.of <| Q.of <| Q.of <| Q.of <| Q.of <| Q.pk rfl rfl <| Q.mv rfl <| Q.of <| Q.of <| Q.of <| Q.of <| Q.of <| Q.of <| Q.of <| Q.pk rfl rfl <| Q.nt <| S.cT rfl rfl <| Q.rg <| Q.as rfl <| Q.nt <| UW.ret <| UQ.passR <| S.rtR (fun _ => res_tmp rfl rfl) <| ?_
  focus (rw [sameV]; simp_all [eqT]; done)
  refine Q.on (Z.fa f26_2 rfl) <| Q.on (Z.ldc 1 ty9 rfl rfl rfl) <| Q.on (Z.fa f26_2 rfl) <| Q.on (Z.ldc 0 ty9 rfl rfl rfl) <| Q.on (Z.bs rfl rfl rfl) <| Q.pk rfl rfl <| Q.mv rfl <| ?_
  refine S.tO 25 (fun hc25 => ?_) (fun hc25 => ?_)
  refine Q.of <| Q.of <| Q.of <| Q.of <| Q.of <| Q.of <| Q.pk rfl rfl <| Q.mv rfl <| Q.of <| Q.of <| Q.of <| Q.of <| Q.of <| Q.of <| Q.of <| Q.pk rfl rfl <| Q.nt <| S.cT rfl rfl <| Q.rg <| Q.as rfl <| Q.nt <| UW.ret <| UQ.passR <| S.rtR (fun _ => res_tmp rfl rfl) <| ?_
  focus (rw [sameV]; simp_all [eqT]; done)
  refine Q.on (Z.fa f26_3 rfl) <| Q.on (Z.ldc 1 ty23 rfl rfl rfl) <| Q.on (Z.fa f26_3 rfl) <| Q.on (Z.ldc 0 ty23 rfl rfl rfl) <| Q.on (Z.call rfl rfl (fun _ => stringsR_spec _ _ h1 _)) <| Q.on (Z.not rfl) <| Q.pk rfl rfl <| Q.mv rfl <| ?_
  refine S.tB 33 (fun hc33 => ?_) (fun hc33 => ?_)
  refine Q.of <| Q.of <| Q.of <| Q.of <| Q.of <| Q.of <| Q.of <| Q.pk rfl rfl <| Q.nt <| S.cT rfl rfl <| Q.rg <| Q.as rfl <| Q.nt <| UW.ret <| UQ.passR <| S.rtR (fun _ => res_tmp rfl rfl) <| ?_
  focus (rw [sameV]; simp_all [eqT]; done)
  refine Q.on (Z.fa f26_4 rfl) <| Q.on (Z.ldc 1 ty24 rfl rfl rfl) <| Q.on (Z.lns sl24 rfl) <| Q.on (Z.fa f26_4 rfl) <| Q.on (Z.ldc 0 ty24 rfl rfl rfl) <| Q.on (Z.lns sl24 rfl) <| Q.on (Z.bi rfl rfl rfl) <| Q.pk rfl rfl <| Q.nt <| ?_
  refine S.cO rfl (fun hc41 => ?_) (fun hc41 => ?_)
  refine Q.rg <| Q.as rfl <| Q.nt <| UW.ret <| UQ.passR <| S.rtR (fun _ => res_tmp rfl rfl) <| ?_
  focus (rw [sameV, samesV_eq, eqBy_len (f := sameV) (l := vs) (r := vs') (by omega)]; simp; done)
  refine UW.skip <| UQ.then <| S.sq <| Q.rg <| Q.as rfl <| Q.nt <| UW.block <| ?_
  have hlen : vs.length = vs'.length := by omega
  refine S.loop (fun j : Nat => [(5, .v (.int .i64 (j : Int))), (2, .ptr p2 0), (3, .ptr p3 0)]) (fun _ => [(p3, .box 26 (encV (.mk k' n' t' ks' vs'))), (p2, .box 26 (encV (.mk k n t ks vs)))]) (fun j => j ≤ vs.length ∧ ∀ (i : Nat) (h : i < vs.length) (h' : i < vs'.length), i < j → sameV vs[i] vs'[i] = true) (fun j => vs.length - j) 0 ⟨Nat.zero_le _, fun i _ _ h => absurd h (by omega)⟩ ⟨rfl, rfl, rfl, trivial⟩ (.refl _) <| ?_
  rintro j ⟨hj, hjj⟩
  by_cases hlt : j < vs.length
  · have hgl := encVs_get vs j hlt
    have hgr := encVs_get vs' j (by omega)
    have hrec := fun H => ih _ (List.getElem_mem hlt) (vs'[j]'(by omega)) H
    focus
      refine S.sq <| Q.rg <| Q.mv rfl <| Q.fa f26_4 rfl <| Q.lc 1 ty24 rfl rfl rfl <| S.qu (Z.lns sl24 rfl) <| Q.bi rfl rfl rfl <| Q.nt <| S.cT rfl (decide_eq_true (by omega)) <| UW.skip <| UQ.then <| S.sq <| UW.block <| S.sq <| ?_
      refine' UW.draw' (by kernel_rfl) [0, 1, 0, 7, 15, 0, 32, 0, 224, 480, 1023, 2047] [some 49, some 50, some 51, some 52, some 53, some 54, some 55, some 56, some 57, some 58, some 59, some 60] [some (49, _), some (50, _), some (51, _), some (52, _), some (53, _), some (54, _), some (55, _), some (56, _), some (57, _), some (58, _), some (59, _), some (60, _)] [] [1, 4, 6, 9] rfl (by decide) (by decide) (QAll.free (by decide) rfl rfl ?q1x0_0 (QAll.held (by decide) rfl rfl ?q1x0_1 (QAll.free (by decide) rfl rfl ?q1x0_2 (QAll.free (by decide) rfl rfl ?q1x0_3 (QAll.held (by decide) rfl rfl ?q1x0_4 (QAll.free (by decide) rfl rfl ?q1x0_5 (QAll.held (by decide) rfl rfl ?q1x0_6 (QAll.free (by decide) rfl rfl ?q1x0_7 (QAll.free (by decide) rfl rfl ?q1x0_8 (QAll.held (by decide) rfl rfl ?q1x0_9 (QAll.free (by decide) rfl rfl ?q1x0_10 (QAll.free (by decide) rfl rfl ?q1x0_11 QAll.nil)))))))))))) ?q1x0_k
      case q1x0_0 => (intro _; exact Z.fa f26_4 rfl)
      case q1x0_1 => exact Z.ldc 1 ty24 rfl rfl rfl
      case q1x0_2 => (intro _; exact Z.mv rfl)
      case q1x0_3 => (intro _; exact Z.ia sl24 rfl rfl (by omega) (by assumption) (by exact encV_len _))
      case q1x0_4 => exact Z.lpa ty26 rfl (encV_len _)
      case q1x0_5 => (intro _; exact Z.fa f26_4 rfl)
      case q1x0_6 => exact Z.ldc 0 ty24 rfl rfl rfl
      case q1x0_7 => (intro _; exact Z.mv rfl)
      case q1x0_8 => (intro _; exact Z.ia sl24 rfl rfl (by omega) (by assumption) (by exact encV_len _))
      case q1x0_9 => exact Z.lpa ty26 rfl (encV_len _)
      case q1x0_10 => (intro _; exact Z.call rfl rfl hrec)
      case q1x0_11 => (intro _; exact Z.not rfl)
      refine CH.nil <| ?_
      simp only [app, finL]
      refine UQ.then <| ?_
      refine S.cB rfl (fun hc60 => ?_) (fun hc60 => ?_)
      refine Q.rg <| Q.as rfl <| Q.nt <| UW.ret <| UQ.blockR <| UQ.passR <| UQ.passR <| UQ.blockR <| UQ.passR <| S.rtR (fun _ => res_tmp rfl rfl) <| ?_
      rotate_left
      refine UW.skip <| UQ.blockN <| UQ.then <| S.rg <| Q.mv rfl <| S.qu (Z.add (r := ((j + 1 : Nat) : Int)) rfl rfl (IntWalk.i64_in _ (by omega))) <| Q.as rfl <| US.nil <| ?_
      refine S.back _ ⟨rfl, rfl, rfl, trivial⟩ (.refl _) ?_ (by omega)
      rotate_left
    · rw [sameV, samesV_eq, eqBy_at j hlt (by omega) (by simpa using hc60)]; simp
    · refine ⟨by omega, fun i h3 h4 h5 => ?_⟩
      by_cases hij : i = j
      · subst hij; simpa using hc60
      · exact hjj i h3 h4 (by omega)
  · refine S.sq <| Q.rg <| Q.mv rfl <| Q.fa f26_4 rfl <| Q.lc 1 ty24 rfl rfl rfl <| S.qu (Z.lns sl24 rfl) <| Q.bi rfl rfl rfl <| Q.nt <| S.cF rfl (decide_eq_false (by omega)) <| UW.exit <| UQ.pass <| UQ.pass <| UQ.here <| UQ.then <| Q.rg <| Q.as rfl <| Q.nt <| UW.ret <| S.rtR (fun _ => res_tmp rfl rfl) <| ?_
    have e1 : eqT t t' = true := by unfold eqT; simpa using hc25
    rw [sameV, samesV_eq, eqBy_true hlen (fun i h1 h2 => hjj i h1 h2 (by omega)), hc11, hc18, e1, show eqBy eqT ks ks' = true from by simpa using hc33]; simp
end Go.Proofs.YtgmfgmbgmjbdhaaGreatDoor
end
section
namespace Go.Proofs.YtgmfgmbgmjbdhaaGreatDoor
open Go Go.RowKit Go.Eng
set_option linter.unusedSimpArgs false
set_option linter.unusedVariables false
set_option maxRecDepth 100000
/-- Texts are not too long. -/
inductive Tx : V → Prop
  | mk (k n : Int) (t : ByteArray) (ks : List ByteArray) (vs : List V) (h1 : t.size ≤ 4000000) (h2 : ∀ s ∈ ks, s.size ≤ 4000000) (h : ∀ x ∈ vs, Tx x) : Tx (.mk k n t ks vs)
theorem Tx.keys {k n : Int} {t : ByteArray} {ks : List ByteArray} {vs : List V} (h : Tx (.mk k n t ks vs)) : ∀ s ∈ ks, s.size ≤ 4000000 := by cases h; assumption
theorem Tx.vals {k n : Int} {t : ByteArray} {ks : List ByteArray} {vs : List V} (h : Tx (.mk k n t ks vs)) : ∀ x ∈ vs, Tx x := by cases h; assumption
section
variable {k n : Int} {t : ByteArray} {ks : List ByteArray} {vs : List V}
end
end Go.Proofs.YtgmfgmbgmjbdhaaGreatDoor
end
section
namespace Go.Proofs.YtgmfgmbgmjbdhaaGreatDoor
open Go Go.RowKit Go.Eng
set_option linter.unusedSimpArgs false
set_option linter.unusedVariables false
set_option maxRecDepth 100000
theorem pl_at {k n : Int} {t : ByteArray} {ks : List ByteArray} {vs : List V} {key : ByteArray} (hk : k = 5) {j : Nat} (hj : j < ks.length) (h : ks[j].toList = key.toList) (hb : ∀ i (h : i < ks.length), i < j → ¬ ks[i].toList = key.toList) : pl (.mk k n t ks vs) key = if j < vs.length then some j else none := by
  unfold pl
  simp only [V.k, V.ks, V.vs, hk, if_true]
  rw [keyIdx_at hj (by simp [h]) (fun i h1 h2 => by simpa using fun h3 => hb i h1 h2 h3.symm)]
  rfl
theorem pl_none {k n : Int} {t : ByteArray} {ks : List ByteArray} {vs : List V} {key : ByteArray} (hb : ∀ i (h : i < ks.length), ¬ ks[i].toList = key.toList) : pl (.mk k n t ks vs) key = none := by
  unfold pl
  split
  · simp only [V.ks]
    rw [keyIdx_none (fun i h1 => by simpa using fun h3 => hb i h1 h3.symm)]
  · rfl
theorem pl_kind {k n : Int} {t : ByteArray} {ks : List ByteArray} {vs : List V} {key : ByteArray} (hk : ¬ k = 5) : pl (.mk k n t ks vs) key = none := by
  unfold pl
  rw [if_neg (by simpa [V.k] using hk)]
theorem placeR_spec (x : V) (key : ByteArray) (hx : Fits x) (H : Hp) : ACall Tryz.prog 33 [.agg (encV x), .v (.string key)] H (IsR H (.v (.int .i64 (oi (pl x key))))) := by
  have hkl0 := hx.ksl
  obtain ⟨k, n, t, ks, vs⟩ := x
  simp only [V.ks] at hkl0
  have hml : (ks.map encS).length = ks.length := List.length_map ..
  have hvl := encVs_len vs
  refine UCall (n := 29) (H0 := H) (objs := []) Tryz.func33 (by kernel_rfl) rfl (by rw [Tryz.ntmps33]; rfl) .nil <| ?_
  refine Q.rg <| S.dd <| D.box rfl rfl rfl fun p2 => Q.as rfl <| Q.nt <| S.sq <| Q.rg <| Q.fa f26_0 rfl <| Q.lc 0 ty3 rfl rfl rfl <| Q.bi rfl rfl rfl <| Q.nt <| ?_
  refine S.cO rfl (fun hc8 => ?_) (fun hc8 => ?_)
  refine Q.rg <| Q.as rfl <| Q.nt <| UW.ret <| UQ.passR <| S.rtR (fun _ => res_tmp rfl rfl) <| ?_
  focus (rw [pl_kind (by assumption)]; rfl; done)
  refine UW.skip <| UQ.then <| S.sq <| Q.rg <| Q.as rfl <| Q.nt <| UW.block <| S.loop (fun j : Nat => [(5, .v (.int .i64 (j : Int))), (1, .v (.string key)), (2, .ptr p2 0)]) (fun _ => [(p2, .box 26 (encV (.mk k n t ks vs)))]) (fun j => j ≤ ks.length ∧ ∀ i (h : i < ks.length), i < j → ¬ ks[i].toList = key.toList) (fun j => ks.length - j) 0 ⟨Nat.zero_le _, fun i _ h => absurd h (by omega)⟩ ⟨rfl, rfl, rfl, trivial⟩ (.refl _) <| ?_
  rintro j ⟨hj, hjj⟩
  by_cases hlt : j < ks.length
  · have hgl := strs_get ks j hlt
    refine S.sq <| Q.rg <| Q.mv rfl <| Q.fa f26_3 rfl <| Q.lc 0 ty23 rfl rfl rfl <| S.qu (Z.lns sl23 rfl) <| Q.bi rfl rfl rfl <| Q.nt <| S.cT rfl (decide_eq_true (by omega)) <| UW.skip <| UQ.then <| S.sq <| UW.block <| Q.rg <| Q.fa f26_3 rfl <| Q.lc 0 ty23 rfl rfl rfl <| Q.mv rfl <| S.qu (Z.ia sl23 rfl rfl (by omega) (by assumption) (by rfl)) <| ?_
    refine S.qu (Z.lpc ty9 rfl) <| Q.mv rfl <| S.qu (Z.bs rfl rfl rfl) <| Q.nt <| ?_
    refine S.cE rfl (fun hc22 => ?_) (fun hc22 => ?_)
    refine S.sq <| Q.rg <| Q.mv rfl <| Q.fa f26_4 rfl <| Q.lc 0 ty24 rfl rfl rfl <| S.qu (Z.lns sl24 rfl) <| Q.bi rfl rfl rfl <| Q.nt <| ?_
    refine S.cD rfl (fun hc27 => ?_) (fun hc27 => ?_)
    refine Q.rg <| Q.as rfl <| Q.nt <| UW.ret <| UQ.passR <| UQ.blockR <| UQ.passR <| UQ.passR <| UQ.blockR <| UQ.passR <| S.rtR (fun _ => res_tmp rfl rfl) <| ?_
    focus (rw [pl_at (by omega) hlt hc22 hjj, if_neg (by omega)]; rfl; done)
    refine UW.skip <| UQ.then <| Q.rg <| Q.mv rfl <| Q.as rfl <| Q.nt <| UW.ret <| UQ.blockR <| UQ.passR <| UQ.passR <| UQ.blockR <| UQ.passR <| S.rtR (fun _ => res_tmp rfl rfl) <| ?_
    focus (rw [pl_at (by omega) hlt hc22 hjj, if_pos (by omega)]; rfl; done)
    refine UW.skip <| UQ.blockN <| UQ.then <| S.rg <| Q.mv rfl <| S.qu (Z.add (r := ((j + 1 : Nat) : Int)) rfl rfl (IntWalk.i64_in _ (by omega))) <| Q.as rfl <| US.nil <| ?_
    refine S.back _ ⟨rfl, rfl, rfl, trivial⟩ (.refl _) ?_ (by omega)
    refine ⟨by omega, fun i h3 h4 => ?_⟩
    by_cases hij : i = j
    · subst hij; exact hc22
    · exact hjj i h3 (by omega)
  · refine S.sq <| Q.rg <| Q.mv rfl <| Q.fa f26_3 rfl <| Q.lc 0 ty23 rfl rfl rfl <| S.qu (Z.lns sl23 rfl) <| Q.bi rfl rfl rfl <| Q.nt <| S.cF rfl (decide_eq_false (by omega)) <| UW.exit <| UQ.pass <| UQ.pass <| UQ.here <| UQ.then <| Q.rg <| Q.as rfl <| Q.nt <| UW.ret <| S.rtR (fun _ => res_tmp rfl rfl) <| ?_
    focus (rw [pl_none fun i h => hjj i h (by omega)]; rfl; done)
theorem placeR_at {x : V} {key : ByteArray} (hx : Fits x) {i : Nat} (hp : pl x key = some i) (H : Hp) : ACall Tryz.prog 33 [.agg (encV x), .v (.string key)] H (IsR H (.v (.int .i64 (i : Int)))) := by
  have := placeR_spec x key hx H; rw [hp] at this; exact this
theorem placeR_no {x : V} {key : ByteArray} (hx : Fits x) (hp : pl x key = none) (H : Hp) : ACall Tryz.prog 33 [.agg (encV x), .v (.string key)] H (IsR H (.v (.int .i64 (-1)))) := by
  have := placeR_spec x key hx H; rw [hp] at this; exact this
theorem getR_spec (x : V) (hx : Fits x) (s : ByteArray) (H : Hp) :
    ACall Tryz.prog 22 [.agg (encV x), .v (.string s)] H (IsR H (.tup [.agg (encV (getV x s).1), .v (.bool (getV x s).2)])) := by
  cases hp : pl x s with
  | none =>
    have hg : getV x s = (zeroV, false) := by unfold getV; rw [hp]
    rw [hg]
    obtain ⟨k, n, t, ks, vs⟩ := x
    refine UCall (n := 18) (H0 := H) (objs := []) Tryz.func22 (by kernel_rfl) rfl (by rw [Tryz.ntmps22]; rfl) .nil <| ?_
    refine Q.rg <| S.dd <| D.box rfl rfl rfl fun p2 => S.dd <| D.al z26 rfl rfl rfl fun p4 => Q.as rfl <| Q.nt <| Q.rg <| S.qu (Z.ldw 1 ty26 rfl rfl rfl) <| Q.mv rfl <| S.qu (Z.call rfl rfl (fun _ => placeR_no hx hp _)) <| Q.as rfl <| Q.nt <| S.sq <| Q.rg <| Q.mv rfl <| Q.bi rfl rfl rfl <| Q.nt <| S.cT rfl (decide_eq_true (by omega)) <| Q.rg <| S.qu (Z.bd [] bt26 rfl rfl rfl rfl rfl rfl) <| S.s <| D.st 0 ty26 rfl rfl rfl rfl rfl rfl rfl rfl fun _ => Q.as rfl <| Q.nt <| UW.ret <| UQ.passR <| S.rtR (fun hd => res_two rfl (res1_cell (k := 0) hd rfl rfl st26 sz26) (res1_tmp rfl)) <| ?_
    rfl
  | some i =>
    have hg : getV x s = (x.vs.getD i zeroV, true) := by unfold getV; rw [hp]
    have hlt := (pl_lt hp).1
    rw [hg]
    obtain ⟨k, n, t, ks, vs⟩ := x
    simp only [V.vs] at hlt ⊢
    have hgl := encVs_at vs i hlt
    refine UCall (n := 18) (H0 := H) (objs := []) Tryz.func22 (by kernel_rfl) rfl (by rw [Tryz.ntmps22]; rfl) .nil <| ?_
    refine Q.rg <| S.dd <| D.box rfl rfl rfl fun p2 => S.dd <| D.al z26 rfl rfl rfl fun p4 => Q.as rfl <| Q.nt <| Q.rg <| S.qu (Z.ldw 1 ty26 rfl rfl rfl) <| Q.mv rfl <| S.qu (Z.call rfl rfl (fun _ => placeR_at hx hp _)) <| Q.as rfl <| Q.nt <| S.sq <| Q.rg <| Q.mv rfl <| Q.bi rfl rfl rfl <| Q.nt <| S.cF rfl (decide_eq_false (by omega)) <| UW.skip <| UQ.then <| Q.rg <| Q.fa f26_4 rfl <| Q.lc 1 ty24 rfl rfl rfl <| Q.mv rfl <| S.qu (Z.ia sl24 rfl rfl (by omega) (by assumption) (by exact encV_len _)) <| ?_
    refine S.qu (Z.lpa ty26 rfl (encV_len _)) <| S.s <| D.stw 0 ty26 rfl rfl rfl rfl (by exact encV_cell _) (encV_len _) rfl rfl fun _ => ?_
    refine Q.as rfl <| Q.nt <| UW.ret <| S.rtR (fun hd => res_two rfl (res1_cell (k := 0) hd rfl rfl st26 (by rw [encV_len]; exact sz26)) (res1_tmp rfl)) <| ?_
    rfl
/-- An object with keys and values put in at a place, some of the old ones taken out there. -/
def wiR (x : V) (at_ out : Nat) (keys : List ByteArray) (vals : List V) : V :=
  .mk 5 x.n x.t (x.ks.take at_ ++ keys ++ (x.ks.take (min x.ks.length x.vs.length)).drop (at_ + out)) (x.vs.take at_ ++ vals ++ (x.vs.take (min x.ks.length x.vs.length)).drop (at_ + out))
theorem three {α : Type} (A B C : List α) : (((A.take A.length ++ B).take (A.length + B.length)) ++ C).take (A.length + B.length + C.length) = A ++ B ++ C := by
  rw [List.take_length, ← List.length_append, List.take_length, ← List.length_append, List.take_length]
theorem withR_own (x : V) (hx : Fits x) (at_ out : Nat) (keys : List ByteArray) (vals : List V) (hat : at_ + out ≤ min x.ks.length x.vs.length) (hk1 : keys.length ≤ 1000000) (hv1 : vals.length ≤ 1000000) (H : Hp) :
    ACall Tryz.prog 34 [.agg (encV x), .v (.int .i64 (at_ : Int)), .v (.int .i64 (out : Int)), strs keys, .sl (encVs vals)] H (OwnV H (wiR x at_ out keys vals)) := by
  have hkl0 := hx.ksl
  have hvl0 := hx.vsl
  obtain ⟨k, n, t, ks, vs⟩ := x
  simp only [V.ks, V.vs] at hkl0 hvl0 hat
  have hml : (ks.map encS).length = ks.length := List.length_map ..
  have hvl := encVs_len vs
  have hml2 : (keys.map encS).length = keys.length := List.length_map ..
  have hvl2 := encVs_len vals
  refine UCall (n := 64) (H0 := H) (objs := []) Tryz.func34 (by kernel_rfl) rfl (by rw [Tryz.ntmps34]; rfl) .nil <| ?_
  refine Q.rg <| S.dd <| D.box rfl rfl rfl fun p5 => S.dd <| D.al z26 rfl rfl rfl fun p10 => Q.nt <| Q.rg <| Q.fa f26_3 rfl <| Q.lc 1 ty23 rfl rfl rfl <| S.qu (Z.lns sl23 rfl) <| Q.fa f26_4 rfl <| Q.lc 1 ty24 rfl rfl rfl <| S.qu (Z.lns sl24 rfl) <| ?_
  refine S.qu (Z.eq (u' := .v (.int .i64 ((min ks.length vs.length : Nat) : Int))) (Z.min rfl rfl) (by rw [hml, hvl]; congr 2; split <;> omega)) ?_
  refine Q.as rfl <| Q.nt <| Q.rg <| Q.as rfl <| Q.nt <| Q.rg <| Q.as rfl <| Q.nt <| Q.rg <| Q.mv rfl <| Q.fa f26_3 rfl <| Q.lc 1 ty23 rfl rfl rfl <| Q.mv rfl <| S.qu (Z.sls sl23 rfl (strs_sz _) (.hi rfl) (by omega) (by omega) rfl) <| S.dd <| D.apn row23 rfl rfl (.sl (sz_cut (strs_sz _))) (by (simp only [List.length_append, List.length_drop, List.length_take]; omega)) fun p26 => ?_
  refine Q.as rfl <| Q.nt <| Q.rg <| Q.mv rfl <| Q.mv rfl <| S.dd <| D.ap 0 row23 rfl rfl (by omega) rfl (.sl (strs_sz _)) (by (simp only [List.length_append, List.length_drop, List.length_take]; omega)) rfl fun p29 => ?_
  refine Q.as rfl <| Q.nt <| Q.rg <| Q.mv rfl <| Q.fa f26_3 rfl <| Q.lc 2 ty23 rfl rfl rfl <| Q.mv rfl <| Q.mv rfl <| S.qu (Z.add (r := ((at_ + out : Nat) : Int)) rfl rfl (IntWalk.i64_in _ (by omega))) <| Q.mv rfl <| S.qu (Z.sls sl23 rfl (strs_sz _) (.both rfl rfl) (by omega) (by omega) rfl) <| S.dd <| D.ap 0 row23 rfl rfl (by (simp only [List.length_append, List.length_drop, List.length_take]; omega)) rfl (.sl (sz_cut (strs_sz _))) (by (simp only [List.length_append, List.length_drop, List.length_take]; omega)) rfl fun p38 => ?_
  refine Q.as rfl <| Q.nt <| Q.rg <| Q.mv rfl <| Q.fa f26_4 rfl <| Q.lc 2 ty24 rfl rfl rfl <| Q.mv rfl <| S.qu (Z.sls sl24 rfl (encVs_sz _) (.hi rfl) (by omega) (by omega) rfl) <| S.dd <| D.apn row24 rfl rfl (.sl (sz_cut (encVs_sz _))) (by (simp only [List.length_append, List.length_drop, List.length_take]; omega)) fun p44 => ?_
  refine Q.as rfl <| Q.nt <| Q.rg <| Q.mv rfl <| Q.mv rfl <| S.dd <| D.ap 0 row24 rfl rfl (by omega) rfl (.sl (encVs_sz _)) (by (simp only [List.length_append, List.length_drop, List.length_take]; omega)) rfl fun p47 => ?_
  refine Q.as rfl <| Q.nt <| Q.rg <| Q.mv rfl <| Q.fa f26_4 rfl <| Q.lc 3 ty24 rfl rfl rfl <| Q.mv rfl <| Q.mv rfl <| S.qu (Z.add (r := ((at_ + out : Nat) : Int)) rfl rfl (IntWalk.i64_in _ (by omega))) <| Q.mv rfl <| S.qu (Z.sls sl24 rfl (encVs_sz _) (.both rfl rfl) (by omega) (by omega) rfl) <| S.dd <| D.ap 0 row24 rfl rfl (by (simp only [List.length_append, List.length_drop, List.length_take]; omega)) rfl (.sl (sz_cut (encVs_sz _))) (by (simp only [List.length_append, List.length_drop, List.length_take]; omega)) rfl fun p56 => ?_
  refine Q.as rfl <| Q.nt <| Q.rg <| Q.fa f26_1 rfl <| Q.lc 3 ty2 rfl rfl rfl <| Q.fa f26_2 rfl <| Q.lc 3 ty9 rfl rfl rfl <| Q.mv rfl <| Q.mv rfl <| S.qu (Z.bd [0, 1, 2, 3, 4] bt26 rfl rfl rfl rfl rfl rfl) <| S.s <| D.st 2 ty26 rfl rfl rfl rfl rfl rfl rfl rfl fun _ => Q.nt <| UW.ret <| ?_
  have ek : (wiR (.mk k n t ks vs) at_ out keys vals).ks.map encS = List.drop 0 (List.take at_ (ks.map encS)) ++ keys.map encS ++ List.drop (at_ + out) (List.take (min ks.length vs.length) (ks.map encS)) := by
    simp [wiR, vks, vvs, List.map_take, List.map_drop]
  have ev : encVs (wiR (.mk k n t ks vs) at_ out keys vals).vs = List.drop 0 (List.take at_ (encVs vs)) ++ encVs vals ++ List.drop (at_ + out) (List.take (min ks.length vs.length) (encVs vs)) := by
    simp [wiR, vks, vvs, encVs_eq, List.map_take, List.map_drop]
  have elk : (wiR (.mk k n t ks vs) at_ out keys vals).ks.length = (List.drop 0 (List.take at_ (ks.map encS))).length + (keys.map encS).length + (List.drop (at_ + out) (List.take (min ks.length vs.length) (ks.map encS))).length := by
    rw [← List.length_map (f := encS), ek, List.length_append, List.length_append]
  have elv : (wiR (.mk k n t ks vs) at_ out keys vals).vs.length = (List.drop 0 (List.take at_ (encVs vs))).length + (encVs vals).length + (List.drop (at_ + out) (List.take (min ks.length vs.length) (encVs vs))).length := by
    rw [← encVs_len, ev, List.length_append, List.length_append]
  refine retR [_, _] (fun hd => res_cell (k := 2) hd rfl rfl rfl st26 sz26) (.cons_cons _ (.cons_cons _ (List.nil_sublist _))) fun hd => ⟨_, hd, rfl, _, _, _, _, ?_, rfl, ?_, ?_, ?_, ?_⟩
  · rw [elk, elv]; rfl
  · rw [elk]; simp only [List.length_append, List.length_take]; omega
  · rw [elk, ek]; exact three _ _ _
  · rw [elv]; simp only [List.length_append, List.length_take]; omega
  · rw [elv, ev]; exact three _ _ _
theorem withR_in (x : V) (hx : Fits x) (at_ out : Nat) (keys : List ByteArray) (vals : List V) (hat : at_ + out ≤ min x.ks.length x.vs.length) (hk1 : keys.length ≤ 1000000) (hv1 : vals.length ≤ 1000000) (H : Hp) :
    ACall Tryz.prog 34 [.agg (encV x), .v (.int .i64 (at_ : Int)), .v (.int .i64 (out : Int)), strs keys, .sl (encVs vals)] H (IsR H (.agg (encV (wiR x at_ out keys vals)))) := ownV_pure (withR_own x hx at_ out keys vals hat hk1 hv1 H)
theorem cutV_eq (x : V) : cutV x = .mk x.k x.n x.t (x.ks.take (min x.ks.length x.vs.length)) (x.vs.take (min x.ks.length x.vs.length)) := rfl
theorem pl_min {x : V} {key : ByteArray} {i : Nat} (h : pl x key = some i) : i + 1 ≤ min x.ks.length x.vs.length := by have := pl_lt h; omega
end Go.Proofs.YtgmfgmbgmjbdhaaGreatDoor
end
section
namespace Go.Proofs.YtgmfgmbgmjbdhaaGreatDoor
open Go Go.RowKit Go.Eng
set_option linter.unusedSimpArgs false
set_option linter.unusedVariables false
set_option maxRecDepth 100000
theorem bytes_ext {a b : ByteArray} (h : a.toList = b.toList) : a = b := by
  rw [Lib.toList_data, Lib.toList_data] at h
  exact ByteArray.ext (Array.toList_inj.1 h)
theorem keyIdx_eq {l : List ByteArray} {s : ByteArray} {i : Nat} (h : keyIdx l s = some i) : l[i]? = some s := by
  unfold keyIdx at h
  obtain ⟨h1, h2, _⟩ := List.findIdx?_eq_some_iff_getElem.1 h
  rw [List.getElem?_eq_getElem h1]
  congr 1
  exact (bytes_ext (by simpa using h2)).symm
theorem pl_key {x : V} {key : ByteArray} {i : Nat} (h : pl x key = some i) : x.ks[i]? = some key := by
  unfold pl at h
  split at h
  · cases hi : keyIdx x.ks key with
    | none => rw [hi] at h; simp at h
    | some j =>
      rw [hi] at h
      simp only at h
      split at h
      · cases h; exact keyIdx_eq hi
      · cases h
  · cases h
theorem take_put {α : Type} (l : List α) (m i : Nat) (a : α) (hi : i < m) (h : l[i]? = some a) : l.take i ++ [a] ++ (l.take m).drop (i + 1) = l.take m := by
  have hl := (List.getElem?_eq_some_iff.1 h).1
  have hlm : i < (l.take m).length := by rw [List.length_take]; omega
  have e1 : (l.take m)[i] = a := by
    have : (l.take m)[i]? = some a := by rw [List.getElem?_take, if_pos hi]; exact h
    rw [List.getElem?_eq_getElem hlm] at this
    exact Option.some.inj this
  have e2 : l.take i = (l.take m).take i := by rw [List.take_take, Nat.min_eq_left (by omega)]
  rw [e2, List.append_assoc, List.singleton_append, ← e1, ← List.drop_eq_getElem_cons hlm, List.take_append_drop]
theorem take_set {α : Type} (l : List α) (m i : Nat) (a : α) (hi : i < m) (hl : i < l.length) : l.take i ++ [a] ++ (l.take m).drop (i + 1) = (l.take m).set i a := by
  have hlm : i < (l.take m).length := by rw [List.length_take]; omega
  rw [List.set_eq_take_append_cons_drop, if_pos hlm, List.take_take, Nat.min_eq_left (by omega)]
  simp
theorem take_ins {α : Type} (l : List α) (m i : Nat) (a : α) (hi : i ≤ m) : l.take i ++ [a] ++ (l.take m).drop (i + 0) = insAt (l.take m) i a := by
  unfold insAt
  rw [List.take_take, Nat.min_eq_left hi]; simp
theorem insAtPos_eq {ks : List ByteArray} {key : ByteArray} {i : Nat} (h1 : i ≤ ks.length) (h2 : ∀ j (h : j < ks.length), j < i → lessB ks[j] key = true) (h3 : ∀ h : i < ks.length, lessB ks[i] key = false) : insAtPos ks key = i := by
  unfold insAtPos insPos
  by_cases hi : i < ks.length
  · rw [(List.findIdx?_eq_some_iff_getElem).2 ⟨hi, by simp [h3 hi], fun j hj => by simp [h2 j (by omega) hj]⟩]
    show (if (i : Int) < 0 then _ else (i : Int).toNat) = i
    rw [if_neg (by omega)]; rfl
  · rw [(List.findIdx?_eq_none_iff).2 (fun x hx => by
      obtain ⟨j, hj, rfl⟩ := List.getElem_of_mem hx
      simp [h2 j hj (by omega)])]
    show (if (-1 : Int) < 0 then _ else _) = i
    rw [if_pos (by omega)]; omega
theorem with_put {x : V} {key : ByteArray} {y : V} {i : Nat} (h : pl x key = some i) : wiR x i 1 [key] [y] = withV x key y := by
  have h1 := pl_min h
  have h2 := pl_lt h
  have e1 : objV x = x := by unfold objV; rw [if_pos h2.2.2]
  unfold withV wiR
  rw [e1, h]
  simp only [cutV, vks, vvs]
  rw [take_put _ _ _ _ (by omega) (pl_key h), take_set _ _ _ _ (by omega) h2.1, h2.2.2]
theorem with_ins {x : V} {key : ByteArray} {y : V} {i : Nat} (hk : x.k = 5) (h : pl x key = none) (hi : i ≤ min x.ks.length x.vs.length) (h2 : ∀ j (h : j < x.ks.length), j < i → lessB x.ks[j] key = true) (h3 : ∀ h : i < x.ks.length, i < min x.ks.length x.vs.length → lessB x.ks[i] key = false) : wiR x i 0 [key] [y] = withV x key y := by
  have e1 : objV x = x := by unfold objV; rw [if_pos hk]
  have e2 : insAtPos (x.ks.take (min x.ks.length x.vs.length)) key = i := insAtPos_eq (by rw [List.length_take]; omega) (fun j hj hji => by rw [List.getElem_take]; exact h2 j _ hji) (fun hh => by rw [List.getElem_take]; exact h3 _ (by rw [List.length_take] at hh; omega))
  unfold withV wiR
  rw [e1, h]
  simp only [cutV, vks, vvs]
  rw [e2, take_ins _ _ _ _ (by omega), take_ins _ _ _ _ (by omega), hk]
theorem withR_spec (x : V) (hx : Fits x) (hks : ∀ s ∈ x.ks, s.size ≤ 4000000) (key : ByteArray) (y : V) (H : Hp) : ACall Tryz.prog 13 [.agg (encV x), .v (.string key), .agg (encV y)] H (IsR H (.agg (encV (withV x key y)))) := by
  by_cases hk : x.k = 5
  · cases hp : pl x key with
    | some i =>
      rw [← with_put hp]
      have hmin := pl_min hp
      obtain ⟨k, n, t, ks, vs⟩ := x
      simp only [V.k] at hk
      refine UCall (n := 58) (H0 := H) (objs := []) Tryz.func13 (by kernel_rfl) rfl (by rw [Tryz.ntmps13]; rfl) .nil <| ?_
      refine Q.rg <| S.dd <| D.box rfl rfl rfl fun p3 => S.dd <| D.box rfl rfl (by exact encV_cell _) fun p5 => ?_
      refine S.dd <| D.al z26 rfl rfl rfl fun p6 => Q.nt <| S.sq <| Q.rg <| Q.fa f26_0 rfl <| Q.lc 2 ty3 rfl rfl rfl <| Q.bi rfl rfl rfl <| Q.nt <| S.cF rfl (bne_f (by omega)) <| UW.skip <| UQ.then <| Q.rg <| S.qu (Z.ldw 2 ty26 rfl rfl rfl) <| Q.mv rfl <| S.qu (Z.call rfl rfl (fun _ => placeR_at hx hp _)) <| Q.as rfl <| Q.nt <| S.sq <| Q.rg <| Q.mv rfl <| Q.bi rfl rfl rfl <| Q.nt <| S.cT rfl (decide_eq_true (by omega)) <| Q.rg <| S.qu (Z.ldw 2 ty26 rfl rfl rfl) <| Q.mv rfl <| Q.mv rfl <| S.qu (Z.bl row23 rfl rfl (lit_ok rfl)) <| S.qu (Z.ldw 1 ty26 rfl rfl (encV_len _)) <| S.qu (Z.bl row24 rfl rfl (by intro cs h; cases List.mem_singleton.1 h; exact ⟨by exact encV_cell _, by exact encV_len _⟩)) <| ?_
      refine S.qu (Z.call rfl rfl (fun _ => withR_in (.mk k n t ks vs) hx i 1 [key] [y] hmin (by simp) (by simp) _)) <| ?_
      refine S.s <| D.st 0 ty26 rfl rfl rfl rfl rfl rfl rfl rfl fun _ => Q.nt <| UW.ret <| UQ.passR <| S.rtR (fun hd => res_cell (k := 0) hd rfl rfl rfl st26 sz26) <| ?_
      rfl
    | none =>
      obtain ⟨k, n, t, ks, vs⟩ := x
      simp only [V.k] at hk
      simp only [vks] at hks
      have hml : (ks.map encS).length = ks.length := List.length_map ..
      have hvl := encVs_len vs
      have hkl0 := hx.ksl
      have hvl0 := hx.vsl
      simp only [V.ks, V.vs] at hkl0 hvl0
      refine UCall (n := 58) (H0 := H) (objs := []) Tryz.func13 (by kernel_rfl) rfl (by rw [Tryz.ntmps13]; rfl) .nil <| ?_
      refine Q.rg <| S.dd <| D.box rfl rfl rfl fun p3 => S.dd <| D.box rfl rfl (by exact encV_cell _) fun p5 => ?_
      refine S.dd <| D.al z26 rfl rfl rfl fun p6 => Q.nt <| S.sq <| Q.rg <| Q.fa f26_0 rfl <| Q.lc 2 ty3 rfl rfl rfl <| Q.bi rfl rfl rfl <| Q.nt <| S.cF rfl (bne_f (by omega)) <| UW.skip <| UQ.then <| Q.rg <| S.qu (Z.ldw 2 ty26 rfl rfl rfl) <| Q.mv rfl <| S.qu (Z.call rfl rfl (fun _ => placeR_no hx hp _)) <| Q.as rfl <| Q.nt <| S.sq <| Q.rg <| Q.mv rfl <| Q.bi rfl rfl rfl <| Q.nt <| S.cF rfl (decide_eq_false (by omega)) <| UW.skip <| UQ.then <| Q.rg <| Q.as rfl <| Q.nt <| Q.rg <| Q.fa f26_3 rfl <| Q.lc 2 ty23 rfl rfl rfl <| S.qu (Z.lns sl23 rfl) <| Q.fa f26_4 rfl <| Q.lc 2 ty24 rfl rfl rfl <| S.qu (Z.lns sl24 rfl) <| ?_
      refine S.qu (Z.eq (u' := .v (.int .i64 ((min ks.length vs.length : Nat) : Int))) (Z.min rfl rfl) (by rw [hml, hvl]; congr 2; split <;> omega)) ?_
      refine Q.as rfl <| Q.nt <| S.sq <| UW.block <| S.loop (fun j : Nat => [(8, .v (.int .i64 (j : Int))), (9, .v (.int .i64 ((min ks.length vs.length : Nat) : Int))), (1, .v (.string key)), (3, .ptr p3 0), (5, .ptr p5 0), (6, .ptr p6 0)]) (fun _ => [(p6, .box 26 (encV zeroV)), (p5, .box 26 (encV y)), (p3, .box 26 (encV (.mk k n t ks vs)))]) (fun j => j ≤ min ks.length vs.length ∧ ∀ i (h : i < ks.length), i < j → lessB ks[i] key = true) (fun j => min ks.length vs.length - j) 0 ⟨Nat.zero_le _, fun i _ h => absurd h (by omega)⟩ ⟨rfl, rfl, rfl, rfl, rfl, rfl, trivial⟩ (.refl _) <| ?_
      rintro j ⟨hj, hjj⟩
      by_cases hlt : j < min ks.length vs.length
      · have hgl := strs_get ks j (by omega)
        have hsz := hks _ (List.getElem_mem (by omega : j < ks.length))
        cases hL : lessB (ks[j]'(by omega)) key with
        | true =>
          focus
            refine S.sq <| Q.rg <| Q.mv rfl <| Q.mv rfl <| Q.bi rfl rfl rfl <| Q.mv rfl <| ?_
            refine S.tD 40 (fun hc40 => ?_) (fun hc40 => ?_)
            rotate_left
            omega
            refine Q.on (Z.fa f26_3 rfl) <| Q.on (Z.ldc 2 ty23 rfl rfl rfl) <| Q.on (Z.mv rfl) <| Q.on (Z.ia sl23 rfl rfl (by omega) (by assumption) (by rfl)) <| ?_
            refine Q.on (Z.lpc ty9 rfl) <| Q.on (Z.mv rfl) <| Q.on (Z.eq (Z.call rfl rfl (fun _ => lessR_spec _ _ hsz _)) (by rw [hL])) <| ?_
            refine Q.pk rfl rfl <| Q.nt <| S.cT rfl rfl <| UW.skip <| UQ.then <| UW.block <| S.rg <| Q.mv rfl <| S.qu (Z.add (r := ((j + 1 : Nat) : Int)) rfl rfl (IntWalk.i64_in _ (by omega))) <| Q.as rfl <| US.nil <| UQ.blockN <| ?_
            refine S.back _ ⟨rfl, rfl, rfl, rfl, rfl, rfl, trivial⟩ (.refl _) ?_ (by omega)
          refine ⟨by omega, fun i h3 h4 => ?_⟩
          by_cases hij : i = j
          · subst hij; exact hL
          · exact hjj i h3 (by omega)
        | false =>
          rw [← with_ins (x := .mk k n t ks vs) (i := j) hk hp (by simp only [vks, vvs]; omega) hjj (fun _ _ => hL)]
          focus
            refine S.sq <| Q.rg <| Q.mv rfl <| Q.mv rfl <| Q.bi rfl rfl rfl <| Q.mv rfl <| ?_
            refine S.tD 40 (fun hc40 => ?_) (fun hc40 => ?_)
            rotate_left
            omega
            refine Q.on (Z.fa f26_3 rfl) <| Q.on (Z.ldc 2 ty23 rfl rfl rfl) <| Q.on (Z.mv rfl) <| Q.on (Z.ia sl23 rfl rfl (by omega) (by assumption) (by rfl)) <| ?_
            refine Q.on (Z.lpc ty9 rfl) <| Q.on (Z.mv rfl) <| Q.on (Z.eq (Z.call rfl rfl (fun _ => lessR_spec _ _ hsz _)) (by rw [hL])) <| ?_
            refine Q.pk rfl rfl <| Q.nt <| S.cF rfl rfl <| UW.exit <| UQ.pass <| UQ.pass <| UQ.here <| UQ.then <| Q.rg <| S.qu (Z.ldw 2 ty26 rfl rfl rfl) <| Q.mv rfl <| Q.mv rfl <| S.qu (Z.bl row23 rfl rfl (lit_ok rfl)) <| S.qu (Z.ldw 1 ty26 rfl rfl (encV_len _)) <| S.qu (Z.bl row24 rfl rfl (by intro cs h; cases List.mem_singleton.1 h; exact ⟨by exact encV_cell _, by exact encV_len _⟩)) <| ?_
            refine S.qu (Z.call rfl rfl (fun _ => withR_in (.mk k n t ks vs) hx j 0 [key] [y] (by simp only [vks, vvs]; omega) (by simp) (by simp) _)) <| ?_
            refine S.s <| D.st 0 ty26 rfl rfl rfl rfl rfl rfl rfl rfl fun _ => Q.nt <| UW.ret <| S.rtR (fun hd => res_cell (k := 0) hd rfl rfl rfl st26 sz26) <| ?_
            rfl
      · rw [← with_ins (x := .mk k n t ks vs) (i := j) hk hp (by simp only [vks, vvs]; omega) hjj (fun _ h => absurd h hlt)]
        refine S.sq <| Q.rg <| Q.mv rfl <| Q.mv rfl <| Q.bi rfl rfl rfl <| Q.mv rfl <| ?_
        refine S.tD 40 (fun hc40 => ?_) (fun hc40 => ?_)
        omega
        refine Q.of <| Q.of <| Q.of <| Q.of <| Q.of <| Q.of <| Q.of <| Q.pk rfl rfl <| Q.nt <| S.cF rfl rfl <| UW.exit <| UQ.pass <| UQ.pass <| UQ.here <| UQ.then <| Q.rg <| S.qu (Z.ldw 2 ty26 rfl rfl rfl) <| Q.mv rfl <| Q.mv rfl <| S.qu (Z.bl row23 rfl rfl (lit_ok rfl)) <| S.qu (Z.ldw 1 ty26 rfl rfl (encV_len _)) <| S.qu (Z.bl row24 rfl rfl (by intro cs h; cases List.mem_singleton.1 h; exact ⟨by exact encV_cell _, by exact encV_len _⟩)) <| ?_
        refine S.qu (Z.call rfl rfl (fun _ => withR_in (.mk k n t ks vs) hx j 0 [key] [y] (by simp only [vks, vvs]; omega) (by simp) (by simp) _)) <| ?_
        refine S.s <| D.st 0 ty26 rfl rfl rfl rfl rfl rfl rfl rfl fun _ => Q.nt <| UW.ret <| S.rtR (fun hd => res_cell (k := 0) hd rfl rfl rfl st26 sz26) <| ?_
        rfl
  · have e1 : objV x = .mk 5 0 ⟨#[]⟩ [] [] := by unfold objV; rw [if_neg hk]
    have e2 : withV x key y = .mk 5 0 ⟨#[]⟩ [key] [y] := by unfold withV; rw [e1]; rfl
    rw [e2]
    obtain ⟨k, n, t, ks, vs⟩ := x
    simp only [V.k] at hk
    refine UCall (n := 58) (H0 := H) (objs := []) Tryz.func13 (by kernel_rfl) rfl (by rw [Tryz.ntmps13]; rfl) .nil <| ?_
    refine Q.rg <| S.dd <| D.box rfl rfl rfl fun p3 => S.dd <| D.box rfl rfl (by exact encV_cell _) fun p5 => ?_
    refine S.dd <| D.al z26 rfl rfl rfl fun p6 => Q.nt <| S.sq <| Q.rg <| Q.fa f26_0 rfl <| Q.lc 2 ty3 rfl rfl rfl <| Q.bi rfl rfl rfl <| Q.nt <| S.cT rfl (bne_t (by omega)) <| Q.rg <| Q.mv rfl <| S.qu (Z.bl row23 rfl rfl (lit_ok rfl)) <| S.qu (Z.ldw 1 ty26 rfl rfl (encV_len _)) <| S.qu (Z.bl row24 rfl rfl (by intro cs h; cases List.mem_singleton.1 h; exact ⟨by exact encV_cell _, by exact encV_len _⟩)) <| ?_
    refine S.qu (Z.bd [0, 3, 4] bt26 rfl rfl rfl rfl rfl rfl) <| S.s <| D.st 0 ty26 rfl rfl rfl rfl rfl rfl rfl rfl fun _ => Q.nt <| UW.ret <| UQ.passR <| S.rtR (fun hd => res_cell (k := 0) hd rfl rfl rfl st26 sz26) <| ?_
    rfl
theorem strR_spec (s : ByteArray) (H : Hp) : ACall Tryz.prog 14 [.v (.string s)] H (IsR H (.agg (encV (strV s)))) := by
  refine UCall (n := 5) (H0 := H) (objs := []) Tryz.func14 (by kernel_rfl) rfl (by rw [Tryz.ntmps14]; rfl) .nil <| ?_
  refine Q.rg <| S.dd <| D.al z26 rfl rfl rfl fun p2 => Q.nt <| Q.rg <| Q.mv rfl <| S.qu (Z.bd [0, 2] bt26 rfl rfl rfl rfl rfl rfl) <| S.s <| D.st 0 ty26 rfl rfl rfl rfl rfl rfl rfl rfl fun _ => Q.nt <| UW.ret <| S.rtR (fun hd => res_cell (k := 0) hd rfl rfl rfl st26 sz26) <| ?_
  rfl
theorem numR_spec (n : Int) (H : Hp) : ACall Tryz.prog 45 [.v (.int .i64 n)] H (IsR H (.agg (encV (numV n)))) := by
  refine UCall (n := 5) (H0 := H) (objs := []) Tryz.func45 (by kernel_rfl) rfl (by rw [Tryz.ntmps45]; rfl) .nil <| ?_
  refine Q.rg <| S.dd <| D.al z26 rfl rfl rfl fun p2 => Q.nt <| Q.rg <| Q.mv rfl <| S.qu (Z.bd [0, 1] bt26 rfl rfl rfl rfl rfl rfl) <| S.s <| D.st 0 ty26 rfl rfl rfl rfl rfl rfl rfl rfl fun _ => Q.nt <| UW.ret <| S.rtR (fun hd => res_cell (k := 0) hd rfl rfl rfl st26 sz26) <| ?_
  rfl
end Go.Proofs.YtgmfgmbgmjbdhaaGreatDoor
end
