/- Contracts of the library's functions, in the engine's words. · The document's answers of layer 2: what they compute. · The document's answers of layer 2: what they compute: keys, Right. -/
import Derived.Test.YtgmfgmbgmjbdhaaGreatDoorKx19
import Derived.Test.YtgmfgmbgmjbdhaaGreatDoorKx20
import Derived.Lib.ItoaLen
section
namespace Go.Proofs.YtgmfgmbgmjbdhaaGreatDoor
open Go Go.RowKit Go.Eng
set_option linter.unusedSimpArgs false
set_option linter.unusedVariables false
set_option maxRecDepth 100000
set_option maxHeartbeats 4000000
/-- A table of the library stands in the heap. -/
def TabAt (H : Hp) (i : Nat) (name : String) (k : IntKind) (zs : List Int) : Prop := ∃ g t p, Tryz.prog.globalNamed name = some g ∧ H i = some (.raw g (.cells (zs.map fun z => Value.int k z).toArray t p))
def Glob (H : Hp) : Prop := TabAt H 0 "internal/strconv.uint64pow10" .u64 Lib.pow10Tab ∧ TabAt H 1 "strings.asciiSpace" .u8 Lib.asciiSpaceTab
theorem TabAt.tab {H : Hp} {i : Nat} {name : String} {k : IntKind} {zs : List Int} (h : TabAt H i name k zs) {ρ : Rho} {w : World} (hh : HRel ρ H w) : Lib.TabIs Tryz.prog w name k zs := by
  obtain ⟨g, t, p, h1, h2⟩ := h
  unfold Lib.TabIs World.var?
  rw [h1]
  simp only [Option.bind_some, hh.raw h2]
theorem TabAt.mono {H H' : Hp} {i : Nat} {name : String} {k : IntKind} {zs : List Int} (h : TabAt H i name k zs) (hs : Sub H H') : TabAt H' i name k zs := by
  obtain ⟨g, t, p, h1, h2⟩ := h
  exact ⟨g, t, p, h1, hs _ _ h2⟩
theorem Glob.mono {H H' : Hp} (h : Glob H) (hs : Sub H H') : Glob H' := ⟨h.1.mono hs, h.2.mono hs⟩
theorem Glob.low {H : Hp} (h : Glob H) : Glob (low H) := by
  obtain ⟨⟨g, t, p, h1, h2⟩, g', t', p', h3, h4⟩ := h
  exact ⟨⟨g, t, p, h1, h2⟩, g', t', p', h3, h4⟩
theorem Glob.raw {H : Hp} (h : Glob H) : RawH (Go.Eng.low H) := by
  obtain ⟨⟨g, t, p, h1, h2⟩, g', t', p', h3, h4⟩ := h
  intro i ob hi
  unfold Go.Eng.low at hi
  split at hi
  · rename_i hlt
    have : i = 0 ∨ i = 1 := by omega
    rcases this with rfl | rfl
    · rw [h2] at hi; cases hi; exact ⟨_, _, rfl⟩
    · rw [h4] at hi; cases hi; exact ⟨_, _, rfl⟩
  · cases hi
theorem Glob.ext {H : Hp} (h : Glob H) {news : List (Nat × Ob)} (hd : Dist H news) : Glob (extH H news) := h.mono (ext_sub hd)
def decB (n : Int) : ByteArray := ⟨(Lib.itoa n).toArray⟩
theorem decB_size (n : Int) (h0 : -9223372036854775808 ≤ n) (h1 : n ≤ 9223372036854775807) : (decB n).size ≤ 21 := Lib.itoa_length_le n h0 h1
theorem formatInt0_spec (n : Int) (h0 : -9223372036854775808 ≤ n) (h1 : n ≤ 9223372036854775807) (H : Hp) (hG : Glob H) : ACall Tryz.prog 116 [.v (.int .i64 n), .v (.int .i64 10)] H (IsR H (.v (.string (decB n)))) :=
  ACall.of_calls ⟨_, Tryz.func116, by kernel_rfl, by kernel_rfl⟩ fun ρ w vals hh hr => by
    obtain ⟨hl, hr⟩ := hr
    match vals, hl, hr with
    | [a, b], hl, hr =>
      have e1 := rep_v (hr 0 _ _ rfl rfl)
      have e2 := rep_v (hr 1 _ _ rfl rfl)
      subst e1 e2
      refine (Tryz.internal_strconv_FormatInt_10 n h0 h1 w (hG.1.tab hh)).mono <| ?_
      rintro e w' ⟨he, k, os, rfl⟩
      exact ⟨he, rfl, rfl, rfl, by show w.heap.size ≤ (w.heap ++ os).size; simp, fun k hk => by show (w.heap ++ os)[k]? = _; rw [Array.getElem?_append_left hk]⟩
theorem formatInt_spec (n : Int) (h0 : -9223372036854775808 ≤ n) (h1 : n ≤ 9223372036854775807) (H : Hp) (hG : Glob H) : ACall Tryz.prog 79 [.v (.int .i64 n), .v (.int .i64 10)] H (IsR H (.v (.string (decB n)))) := by
  refine UCall (n := 8) (H0 := H) (objs := []) Tryz.func79 (by kernel_rfl) rfl (by rw [Tryz.ntmps79]; rfl) .nil <| ?_
  refine Q.rg <| Q.as rfl <| Q.nt <| Q.rg <| Q.mv rfl <| Q.mv rfl <| S.qu (Z.callg rfl rfl (fun _ hS => formatInt0_spec n h0 h1 _ (hG.mono hS))) <| Q.as rfl <| Q.nt <| UW.ret <| S.rtR (fun _ => res_tmp rfl rfl) <| ?_
  rfl
def truthB (b : Bool) : ByteArray := ⟨(Lib.formatBool b).toArray⟩
theorem formatBool_spec (b : Bool) (H : Hp) : ACall Tryz.prog 78 [.v (.bool b)] H (IsR H (.v (.string (truthB b)))) :=
  ACall.of_calls ⟨_, Tryz.func78, by kernel_rfl, by kernel_rfl⟩ fun ρ w vals hh hr => by
    obtain ⟨hl, hr⟩ := hr
    match vals, hl, hr with
    | [a], hl, hr =>
      have e1 := rep_v (hr 0 _ _ rfl rfl)
      subst e1
      refine (Tryz.strconv_FormatBool b w).mono <| ?_
      rintro e w' ⟨he, rfl⟩
      exact ⟨he, Below.refl _ _⟩
def joinB (l : List ByteArray) (sep : ByteArray) : ByteArray := ⟨(Lib.join (l.map (·.data.toList)) sep.data.toList).toArray⟩
theorem encS_flat : ∀ l : List ByteArray, (l.map encS).flatten = l.map fun s => .v (.string s)
  | [] => rfl
  | a :: r => by rw [List.map_cons, List.flatten_cons, encS_flat r]; rfl
theorem joinOwn_spec (l : List ByteArray) (sep : ByteArray) (hl : l.length ≤ 140737488355328) (hb : (joinB l sep).size ≤ 140737488355328) (i len : Nat) (hle : len = l.length) (H : Hp) (hi : H i = some (.row 9 1 (l.map encS))) : ACall Tryz.prog 117 [.own i 0 len 1, .v (.string sep)] H (IsR H (.v (.string (joinB l sep)))) :=
  ACall.of_calls ⟨_, Tryz.func117, by kernel_rfl, by kernel_rfl⟩ fun ρ w vals hh hr => by
    subst hle
    obtain ⟨hl0, hr⟩ := hr
    match vals, hl0, hr with
    | [a, b], hl0, hr =>
      have e1 := hr 0 _ _ rfl rfl
      have e2 := rep_v (hr 1 _ _ rfl rfl)
      subst e2
      obtain ⟨v, hv, hz, inner, how, hrl, hc⟩ := hh.ob _ _ hi
      have hnone : ∀ a c, l.length = 0 → Calls Tryz.prog 117 #[.slice a 0 c, .string sep] w fun e w' => e = .returned (.string (joinB l sep)) ∧ Below w.heap.size w w' := fun a c h0 => by
        have : l = [] := List.eq_nil_of_length_eq_zero h0
        subst this
        exact (Tryz.strings_Join_none a c sep w).mono fun e w' ⟨he, hw⟩ => ⟨he, hw ▸ Below.refl _ _⟩
      generalize hll : l.length = ll at e1 ⊢
      cases e1 with
      | own0 _ _ h => exact hnone none 0 (by assumption)
      | ownE _ _ _ g n cap off' cap' h h0 hm => exact hnone _ _ (by omega)
      | own _ _ _ _ g n cap h hcap hmax =>
        rw [hv] at h; cases h
        rcases how.2 with ⟨h7, h8⟩ | ⟨g', cap', cur, h7, _, hg', h8, h9, h10, h11⟩
        · cases h7
        cases h7
        subst hll
        rw [List.length_map] at h11
        rw [List.length_map] at h8
        rw [show ([Value.slice (some ⟨g, 0 * 1, none⟩) l.length (cap - 0), Value.string sep] : List Value).toArray = #[.slice (some ⟨g, 0, none⟩) l.length (cap - 0), .string sep] from rfl]
        refine Tryz.strings_Join g 0 (cap - 0) l sep w (fun j x hj => ?_) (Array.getElem?_eq_some_iff.1 hg').1 hl (by omega) hb
        have hjl := (List.getElem?_eq_some_iff.1 hj).1
        have hfl := encS_flat l
        have h12 := hc.1
        rw [hfl, List.length_map] at h12
        have h13 := (hc.2 j (.v (.string x)) (inner[j]'(by omega)) (by rw [hfl, List.getElem?_map, hj]; rfl) (List.getElem?_eq_getElem (by omega))).1
        have h14 : cur.toList[j]? = some (.string x) := by
          have : (cur.toList.take (l.length * 1))[j]? = some (.string x) := by rw [h11, List.getElem?_eq_getElem (by omega), rep_v h13]
          rw [List.getElem?_take, if_pos (by omega)] at this
          exact this
        simp only [World.cell?, hg', Nat.zero_add]
        simpa using h14
end Go.Proofs.YtgmfgmbgmjbdhaaGreatDoor
end
section
namespace Go.Proofs.YtgmfgmbgmjbdhaaGreatDoor
open Go Go.RowKit Go.Eng
set_option linter.unusedSimpArgs false
set_option linter.unusedVariables false
set_option maxRecDepth 100000
theorem sameR_spec (x : V) (hx : Fits x) : ∀ (y : V) (H : Hp), ACall Tryz.prog 18 [.agg (encV x), .agg (encV y)] H (IsR H (.v (.bool (sameV x y)))) := by
  induction hx with
  | mk k n t ks vs h1 h2 h ih =>
  rintro ⟨k', n', t', ks', vs'⟩ H
  have hvl := encVs_len vs
  have hvl' := encVs_len vs'
  refine UCall (n := 61) (H0 := H) (objs := []) Tryz.func18 (by kernel_rfl) rfl (by rw [Tryz.ntmps18]; rfl) .nil <| ?_
  refine Q.rg <| S.dd <| D.box rfl rfl rfl fun p2 => S.dd <| D.box rfl rfl rfl fun p3 => Q.as rfl <| Q.nt <| S.sq <| Q.rg <| Q.fa f26_0 rfl <| Q.lc 1 ty3 rfl rfl rfl <| Q.fa f26_0 rfl <| Q.lc 0 ty3 rfl rfl rfl <| Q.bi rfl rfl rfl <| Q.mv rfl <| ?_
  refine S.tO 11 (fun hc11 => ?_) (fun hc11 => ?_)
  refine Q.of <| Q.of <| Q.of <| Q.of <| Q.of <| Q.pk rfl rfl <| Q.mv rfl <| Q.of <| Q.of <| Q.of <| Q.of <| Q.of <| Q.pk rfl rfl <| Q.mv rfl <| Q.of <| Q.of <| Q.of <| Q.of <| Q.of <| Q.of <| Q.pk rfl rfl <| Q.mv rfl <| Q.of <| Q.of <| Q.of <| Q.of <| Q.of <| Q.of <| Q.of <| Q.pk rfl rfl <| Q.nt <| S.cT rfl rfl <| Q.rg <| Q.as rfl <| Q.nt <| UW.ret <| UQ.passR <| S.rtR (fun _ => res_tmp rfl rfl) <| ?_
  focus (rw [sameV]; simp_all [eqT]; done)
  refine Q.on (Z.fa f26_1 rfl) <| Q.on (Z.ldc 1 ty2 rfl rfl rfl) <| Q.on (Z.fa f26_1 rfl) <| Q.on (Z.ldc 0 ty2 rfl rfl rfl) <| Q.on (Z.bi rfl rfl rfl) <| Q.pk rfl rfl <| Q.mv rfl <| ?_
  refine S.tO 18 (fun hc18 => ?_) (fun hc18 => ?_)
  refine Q.of <| Q.of <| Q.of <| Q.of <| Q.of <| Q.pk rfl rfl <| Q.mv rfl <| Q.of <| Q.of <| Q.of <| Q.of <| Q.of <| Q.of <| Q.pk rfl rfl <| Q.mv rfl <| Q.of <| Q.of <| Q.of <| Q.of <| Q.of <| Q.of <| Q.of <| Q.pk rfl rfl <| Q.nt <| S.cT rfl rfl <| Q.rg <| Q.as rfl <| Q.nt <| UW.ret <| UQ.passR <| S.rtR (fun _ => res_tmp rfl rfl) <| ?_
  focus (rw [sameV]; simp_all [eqT]; done)
  refine Q.on (Z.fa f26_2 rfl) <| Q.on (Z.ldc 1 ty9 rfl rfl rfl) <| Q.on (Z.fa f26_2 rfl) <| Q.on (Z.ldc 0 ty9 rfl rfl rfl) <| Q.on (Z.bs rfl rfl rfl) <| Q.pk rfl rfl <| Q.mv rfl <| ?_
  refine S.tO 25 (fun hc25 => ?_) (fun hc25 => ?_)
  refine Q.of <| Q.of <| Q.of <| Q.of <| Q.of <| Q.of <| Q.pk rfl rfl <| Q.mv rfl <| Q.of <| Q.of <| Q.of <| Q.of <| Q.of <| Q.of <| Q.of <| Q.pk rfl rfl <| Q.nt <| S.cT rfl rfl <| Q.rg <| Q.as rfl <| Q.nt <| UW.ret <| UQ.passR <| S.rtR (fun _ => res_tmp rfl rfl) <| ?_
  focus (rw [sameV]; simp_all [eqT]; done)
  refine Q.on (Z.fa f26_3 rfl) <| Q.on (Z.ldc 1 ty23 rfl rfl rfl) <| Q.on (Z.fa f26_3 rfl) <| Q.on (Z.ldc 0 ty23 rfl rfl rfl) <| Q.on (Z.call rfl rfl (fun _ => stringsR_spec _ _ h1 _)) <| Q.on (Z.not rfl) <| Q.pk rfl rfl <| Q.mv rfl <| ?_
  refine S.tB 33 (fun hc33 => ?_) (fun hc33 => ?_)
  refine Q.of <| Q.of <| Q.of <| Q.of <| Q.of <| Q.of <| Q.of <| Q.pk rfl rfl <| Q.nt <| S.cT rfl rfl <| Q.rg <| Q.as rfl <| Q.nt <| UW.ret <| UQ.passR <| S.rtR (fun _ => res_tmp rfl rfl) <| ?_
  focus (rw [sameV]; simp_all [eqT]; done)
  refine Q.on (Z.fa f26_4 rfl) <| Q.on (Z.ldc 1 ty24 rfl rfl rfl) <| Q.on (Z.lns sl24 rfl) <| Q.on (Z.fa f26_4 rfl) <| Q.on (Z.ldc 0 ty24 rfl rfl rfl) <| Q.on (Z.lns sl24 rfl) <| Q.on (Z.bi rfl rfl rfl) <| Q.pk rfl rfl <| Q.nt <| ?_
  refine S.cO rfl (fun hc41 => ?_) (fun hc41 => ?_)
  refine Q.rg <| Q.as rfl <| Q.nt <| UW.ret <| UQ.passR <| S.rtR (fun _ => res_tmp rfl rfl) <| ?_
  focus (rw [sameV, samesV_eq, eqBy_len (f := sameV) (l := vs) (r := vs') (by omega)]; simp; done)
  refine UW.skip <| UQ.then <| S.sq <| Q.rg <| Q.as rfl <| Q.nt <| UW.block <| ?_
  have hlen : vs.length = vs'.length := by omega
  refine S.loop (fun j : Nat => [(5, .v (.int .i64 (j : Int))), (2, .ptr p2 0), (3, .ptr p3 0)]) (fun _ => [(p3, .box 26 (encV (.mk k' n' t' ks' vs'))), (p2, .box 26 (encV (.mk k n t ks vs)))]) (fun j => j ≤ vs.length ∧ ∀ (i : Nat) (h : i < vs.length) (h' : i < vs'.length), i < j → sameV vs[i] vs'[i] = true) (fun j => vs.length - j) 0 ⟨Nat.zero_le _, fun i _ _ h => absurd h (by omega)⟩ ⟨rfl, rfl, rfl, trivial⟩ (.refl _) <| ?_
  rintro j ⟨hj, hjj⟩
  by_cases hlt : j < vs.length
  · have hgl := encVs_get vs j hlt
    have hgr := encVs_get vs' j (by omega)
    have hrec := fun H => ih _ (List.getElem_mem hlt) (vs'[j]'(by omega)) H
    focus
      refine S.sq <| Q.rg <| Q.mv rfl <| Q.fa f26_4 rfl <| Q.lc 1 ty24 rfl rfl rfl <| S.qu (Z.lns sl24 rfl) <| Q.bi rfl rfl rfl <| Q.nt <| S.cT rfl (decide_eq_true (by omega)) <| UW.skip <| UQ.then <| S.sq <| UW.block <| S.sq <| ?_
      refine' UW.draw' (by kernel_rfl) [0, 1, 0, 7, 15, 0, 32, 0, 224, 480, 1023, 2047] [some 49, some 50, some 51, some 52, some 53, some 54, some 55, some 56, some 57, some 58, some 59, some 60] [some (49, _), some (50, _), some (51, _), some (52, _), some (53, _), some (54, _), some (55, _), some (56, _), some (57, _), some (58, _), some (59, _), some (60, _)] [] [1, 4, 6, 9] rfl (by decide) (by decide) (QAll.free (by decide) rfl rfl ?q1x0_0 (QAll.held (by decide) rfl rfl ?q1x0_1 (QAll.free (by decide) rfl rfl ?q1x0_2 (QAll.free (by decide) rfl rfl ?q1x0_3 (QAll.held (by decide) rfl rfl ?q1x0_4 (QAll.free (by decide) rfl rfl ?q1x0_5 (QAll.held (by decide) rfl rfl ?q1x0_6 (QAll.free (by decide) rfl rfl ?q1x0_7 (QAll.free (by decide) rfl rfl ?q1x0_8 (QAll.held (by decide) rfl rfl ?q1x0_9 (QAll.free (by decide) rfl rfl ?q1x0_10 (QAll.free (by decide) rfl rfl ?q1x0_11 QAll.nil)))))))))))) ?q1x0_k
      case q1x0_0 => (intro _; exact Z.fa f26_4 rfl)
      case q1x0_1 => exact Z.ldc 1 ty24 rfl rfl rfl
      case q1x0_2 => (intro _; exact Z.mv rfl)
      case q1x0_3 => (intro _; exact Z.ia sl24 rfl rfl (by omega) (by assumption) (by exact encV_len _))
      case q1x0_4 => exact Z.lpa ty26 rfl (encV_len _)
      case q1x0_5 => (intro _; exact Z.fa f26_4 rfl)
      case q1x0_6 => exact Z.ldc 0 ty24 rfl rfl rfl
      case q1x0_7 => (intro _; exact Z.mv rfl)
      case q1x0_8 => (intro _; exact Z.ia sl24 rfl rfl (by omega) (by assumption) (by exact encV_len _))
      case q1x0_9 => exact Z.lpa ty26 rfl (encV_len _)
      case q1x0_10 => (intro _; exact Z.call rfl rfl hrec)
      case q1x0_11 => (intro _; exact Z.not rfl)
      refine CH.nil <| ?_
      simp only [app, finL]
      refine UQ.then <| ?_
      refine S.cB rfl (fun hc60 => ?_) (fun hc60 => ?_)
      refine Q.rg <| Q.as rfl <| Q.nt <| UW.ret <| UQ.blockR <| UQ.passR <| UQ.passR <| UQ.blockR <| UQ.passR <| S.rtR (fun _ => res_tmp rfl rfl) <| ?_
      rotate_left
      refine UW.skip <| UQ.blockN <| UQ.then <| S.rg <| Q.mv rfl <| S.qu (Z.add (r := ((j + 1 : Nat) : Int)) rfl rfl (IntWalk.i64_in _ (by omega))) <| Q.as rfl <| US.nil <| ?_
      refine S.back _ ⟨rfl, rfl, rfl, trivial⟩ (.refl _) ?_ (by omega)
      rotate_left
    · rw [sameV, samesV_eq, eqBy_at j hlt (by omega) (by simpa using hc60)]; simp
    · refine ⟨by omega, fun i h3 h4 h5 => ?_⟩
      by_cases hij : i = j
      · subst hij; simpa using hc60
      · exact hjj i h3 h4 (by omega)
  · refine S.sq <| Q.rg <| Q.mv rfl <| Q.fa f26_4 rfl <| Q.lc 1 ty24 rfl rfl rfl <| S.qu (Z.lns sl24 rfl) <| Q.bi rfl rfl rfl <| Q.nt <| S.cF rfl (decide_eq_false (by omega)) <| UW.exit <| UQ.pass <| UQ.pass <| UQ.here <| UQ.then <| Q.rg <| Q.as rfl <| Q.nt <| UW.ret <| S.rtR (fun _ => res_tmp rfl rfl) <| ?_
    have e1 : eqT t t' = true := by unfold eqT; simpa using hc25
    rw [sameV, samesV_eq, eqBy_true hlen (fun i h1 h2 => hjj i h1 h2 (by omega)), hc11, hc18, e1, show eqBy eqT ks ks' = true from by simpa using hc33]; simp
theorem maxL_zero (l : List Int) (h : ∀ c ∈ l, 0 ≤ c) : maxL (l ++ [0]) = l.foldl (fun m c => if c > m then c else m) 0 := by
  have e1 : 0 ≤ l.foldl (fun m c => if c > m then c else m) 0 := le_foldmax.1
  have e2 : l.foldl (fun m c => if c > m then c else m) 0 ≤ maxL (l ++ [0]) := foldmax_le (le_maxL (by simp)) (fun c hc => le_maxL (by simp [hc]))
  have e3 : maxL (l ++ [0]) ≤ l.foldl (fun m c => if c > m then c else m) 0 := by
    cases l with
    | nil => simp [maxL]
    | cons a r =>
      have h1 := le_foldmax (r := a :: r) (b := 0)
      exact foldmax_le (h1.2 a (by simp)) (fun c hc => by
        rcases List.mem_append.1 hc with h2 | h2
        · exact h1.2 c (by simp [h2])
        · simp at h2; subst h2; exact e1)
  omega
end Go.Proofs.YtgmfgmbgmjbdhaaGreatDoor
end
section
namespace Go.Proofs.YtgmfgmbgmjbdhaaGreatDoor
open Go Go.RowKit Go.Eng
set_option linter.unusedSimpArgs false
set_option linter.unusedVariables false
set_option maxRecDepth 100000
theorem checkR_spec' (s : ByteArray) (hs : s.size ≤ 4000000) (H : Hp) : ACall Tryz.prog 58 [.v (.string s)] H (IsR H (.v (.int .i64 (chk s)))) := by rw [chk_eq]; exact checkR_spec s hs H
def keysOk (ks : List ByteArray) : Bool := (List.range ks.length).all (okKey ks)
theorem keysR_spec (ks : List ByteArray) (hl : ks.length ≤ 1000000) (hks : ∀ s ∈ ks, s.size ≤ 4000000) (H : Hp) : ACall Tryz.prog 59 [strs ks] H (IsR H (.v (.bool (keysOk ks)))) := by
  have hml : (ks.map encS).length = ks.length := List.length_map ..
  refine UCall (n := 33) (H0 := H) (objs := []) Tryz.func59 (by kernel_rfl) rfl (by rw [Tryz.ntmps59]; rfl) .nil <| ?_
  refine Q.rg <| Q.as rfl <| Q.nt <| S.sq <| Q.rg <| Q.as rfl <| Q.nt <| UW.block <| S.loop (fun j : Nat => [(3, .v (.int .i64 (j : Int))), (0, strs ks)]) (fun _ => []) (fun j => j ≤ ks.length ∧ ∀ i, i < j → okKey ks i = true) (fun j => ks.length - j) 0 ⟨Nat.zero_le _, fun i h => absurd h (by omega)⟩ ⟨rfl, rfl, trivial⟩ (.refl _) <| ?_
  rintro j ⟨hj, hjj⟩
  by_cases hlt : j < ks.length
  · have hgl := strs_get ks j hlt
    have hge : ks.getD j ⟨#[]⟩ = ks[j] := getD_at hlt
    have bad : okKey ks j = false → keysOk ks = false := fun hb => by
      unfold keysOk
      rw [List.all_eq_false]
      exact ⟨j, List.mem_range.2 hlt, by simp [hb]⟩
    have good : okKey ks j = true → ∀ i, i < j + 1 → okKey ks i = true := fun hb i hi => by
      by_cases hij : i = j
      · subst hij; exact hb
      · exact hjj i (by omega)
    by_cases hC : 0 ≤ chk ks[j]
    · have hb := bad (by unfold okKey; rw [hge, decide_eq_false (by omega)]; rfl)
      refine S.sq <| Q.rg <| Q.mv rfl <| Q.mv rfl <| S.qu (Z.lns sl23 rfl) <| Q.bi rfl rfl rfl <| Q.nt <| S.cT rfl (decide_eq_true (by omega)) <| UW.skip <| UQ.then <| S.sq <| UW.block <| S.sq <| ?_
      refine' UW.draw' (by kernel_rfl) [0, 0, 3, 7, 15, 31, 63, 127, 255, 511, 1023, 1023, 3071, 8191, 16383, 1023, 1023, 99327, 230399, 524287, 1048575, 2097151, 4194303] [some 10, some 11, some 12, some 13, some 14, some 15, some 16, some 17, some 18, some 19, some 20, some 21, some 22, some 23, some 24, some 25, some 26, some 27, some 28, some 29, some 30, some 31, some 32] [some (10, _), some (11, _), some (12, _), some (13, _), some (14, _), some (15, _), some (16, _), some (17, _), some (18, _), some (19, _), some (20, _), some (21, _), some (22, _), some (23, _), some (24, _), some (25, _), some (26, _), some (27, _), some (28, _), some (29, _), some (30, _), some (31, _), some (32, _)] [] [3, 14, 18] rfl (by decide) (by decide) (QAll.free (by decide) rfl rfl ?q1x0_0 (QAll.free (by decide) rfl rfl ?q1x0_1 (QAll.free (by decide) rfl rfl ?q1x0_2 (QAll.held (by decide) rfl rfl ?q1x0_3 (QAll.free (by decide) rfl rfl ?q1x0_4 (QAll.free (by decide) rfl rfl ?q1x0_5 (QAll.free (by decide) rfl rfl ?q1x0_6 (QAll.free (by decide) rfl rfl ?q1x0_7 (QAll.free (by decide) rfl rfl ?q1x0_8 (QAll.free (by decide) rfl rfl ?q1x0_9 (QAll.free (by decide) rfl rfl ?q1x0_10 (QAll.free (by decide) rfl rfl ?q1x0_11 (QAll.free (by decide) rfl rfl ?q1x0_12 (QAll.free (by decide) rfl rfl ?q1x0_13 (QAll.held (by decide) rfl rfl ?q1x0_14 (QAll.free (by decide) rfl rfl ?q1x0_15 (QAll.free (by decide) rfl rfl ?q1x0_16 (QAll.free (by decide) rfl rfl ?q1x0_17 (QAll.held (by decide) rfl rfl ?q1x0_18 (QAll.free (by decide) rfl rfl ?q1x0_19 (QAll.free (by decide) rfl rfl ?q1x0_20 (QAll.free (by decide) rfl rfl ?q1x0_21 (QAll.free (by decide) rfl rfl ?q1x0_22 QAll.nil))))))))))))))))))))))) ?q1x0_k
      case q1x0_0 => (intro _; exact Z.mv rfl)
      case q1x0_1 => (intro _; exact Z.mv rfl)
      case q1x0_2 => (intro _; exact Z.ia sl23 rfl rfl (by omega) (by assumption) (by rfl))
      case q1x0_3 => exact Z.lpc ty9 rfl
      case q1x0_4 => (intro _; exact Z.call rfl rfl (fun _ => checkR_spec' _ (hks _ (List.getElem_mem hlt)) _))
      case q1x0_5 => (intro _; exact Z.tT (Z.bi rfl rfl rfl) (decide_eq_true (by omega)))
      case q1x0_6 => (intro _; exact Z.mv rfl)
      case q1x0_7 => (intro _; exact Z.of)
      case q1x0_8 => (intro _; exact Z.of)
      case q1x0_9 => (intro _; exact Z.of)
      case q1x0_10 => (intro _; exact Z.of2)
      case q1x0_11 => (intro _; exact Z.of2)
      case q1x0_12 => (intro _; exact Z.of2)
      case q1x0_13 => (intro _; exact Z.of2)
      case q1x0_14 => exact Z.of2
      case q1x0_15 => (intro _; exact Z.of2)
      case q1x0_16 => (intro _; exact Z.of2)
      case q1x0_17 => (intro _; exact Z.of2)
      case q1x0_18 => exact Z.of2
      case q1x0_19 => (intro _; exact Z.of2)
      case q1x0_20 => (intro _; exact Z.of2)
      case q1x0_21 => (intro _; exact Z.of)
      case q1x0_22 => (intro _; exact Z.pick rfl rfl)
      refine CH.nil <| ?_
      simp only [app, finL]
      refine UQ.then <| S.cT rfl rfl <| Q.rg <| Q.as rfl <| Q.nt <| UW.ret <| UQ.blockR <| UQ.passR <| UQ.passR <| UQ.blockR <| UQ.passR <| S.rtR (fun _ => res_tmp rfl rfl) <| ?_
      focus (rw [hb]; done)
    · by_cases h0 : 0 < j
      · have hgp := strs_before ks j hlt h0
        have hpm : ks.getD (j - 1) ⟨#[]⟩ ∈ ks := getD_mem (by omega)
        have hpb := hks _ hpm
        cases hL : lessB (ks.getD (j - 1) ⟨#[]⟩) ks[j] with
        | true =>
          have hL2 : (!(lessB (ks.getD (j - 1) ⟨#[]⟩) ks[j])) = false := by rw [hL]; rfl
          have hok : okKey ks j = true := by
            unfold lessB at hL
            unfold okKey; rw [hge, hL, decide_eq_true (by omega)]; simp
          refine S.sq <| Q.rg <| Q.mv rfl <| Q.mv rfl <| S.qu (Z.lns sl23 rfl) <| Q.bi rfl rfl rfl <| Q.nt <| S.cT rfl (decide_eq_true (by omega)) <| UW.skip <| UQ.then <| S.sq <| UW.block <| S.sq <| ?_
          refine' UW.draw' (by kernel_rfl) [0, 0, 3, 7, 15, 31, 63, 127, 255, 511, 1023, 1023, 3071, 8191, 16383, 1023, 1023, 99327, 230399, 524287, 1048575, 2097151, 4194303] [some 10, some 11, some 12, some 13, some 14, some 15, some 16, some 17, some 18, some 19, some 20, some 21, some 22, some 23, some 24, some 25, some 26, some 27, some 28, some 29, some 30, some 31, some 32] [some (10, _), some (11, _), some (12, _), some (13, _), some (14, _), some (15, _), some (16, _), some (17, _), some (18, _), some (19, _), some (20, _), some (21, _), some (22, _), some (23, _), some (24, _), some (25, _), some (26, _), some (27, _), some (28, _), some (29, _), some (30, _), some (31, _), some (32, _)] [] [3, 14, 18] rfl (by decide) (by decide) (QAll.free (by decide) rfl rfl ?q2x0_0 (QAll.free (by decide) rfl rfl ?q2x0_1 (QAll.free (by decide) rfl rfl ?q2x0_2 (QAll.held (by decide) rfl rfl ?q2x0_3 (QAll.free (by decide) rfl rfl ?q2x0_4 (QAll.free (by decide) rfl rfl ?q2x0_5 (QAll.free (by decide) rfl rfl ?q2x0_6 (QAll.free (by decide) rfl rfl ?q2x0_7 (QAll.free (by decide) rfl rfl ?q2x0_8 (QAll.free (by decide) rfl rfl ?q2x0_9 (QAll.free (by decide) rfl rfl ?q2x0_10 (QAll.free (by decide) rfl rfl ?q2x0_11 (QAll.free (by decide) rfl rfl ?q2x0_12 (QAll.free (by decide) rfl rfl ?q2x0_13 (QAll.held (by decide) rfl rfl ?q2x0_14 (QAll.free (by decide) rfl rfl ?q2x0_15 (QAll.free (by decide) rfl rfl ?q2x0_16 (QAll.free (by decide) rfl rfl ?q2x0_17 (QAll.held (by decide) rfl rfl ?q2x0_18 (QAll.free (by decide) rfl rfl ?q2x0_19 (QAll.free (by decide) rfl rfl ?q2x0_20 (QAll.free (by decide) rfl rfl ?q2x0_21 (QAll.free (by decide) rfl rfl ?q2x0_22 QAll.nil))))))))))))))))))))))) ?q2x0_k
          case q2x0_0 => (intro _; exact Z.mv rfl)
          case q2x0_1 => (intro _; exact Z.mv rfl)
          case q2x0_2 => (intro _; exact Z.ia sl23 rfl rfl (by omega) (by assumption) (by rfl))
          case q2x0_3 => exact Z.lpc ty9 rfl
          case q2x0_4 => (intro _; exact Z.call rfl rfl (fun _ => checkR_spec' _ (hks _ (List.getElem_mem hlt)) _))
          case q2x0_5 => (intro _; exact Z.tF (Z.bi rfl rfl rfl) (decide_eq_false (by omega)))
          case q2x0_6 => (intro _; exact Z.mv rfl)
          case q2x0_7 => (intro _; exact Z.on (Z.mv rfl))
          case q2x0_8 => (intro _; exact Z.on (Z.tT (Z.bi rfl rfl rfl) (decide_eq_true (by omega))))
          case q2x0_9 => (intro _; exact Z.on (Z.mv rfl))
          case q2x0_10 => (intro _; exact Z.on (Z.mv rfl))
          case q2x0_11 => (intro _; exact Z.on (Z.mv rfl))
          case q2x0_12 => (intro _; exact Z.on (Z.sub rfl rfl (IntWalk.i64_in _ (by omega))))
          case q2x0_13 => (intro _; exact Z.on (Z.ia sl23 rfl rfl (by omega) (by assumption) (by rfl)))
          case q2x0_14 => exact Z.on (Z.lpc ty9 rfl)
          case q2x0_15 => (intro _; exact Z.on (Z.mv rfl))
          case q2x0_16 => (intro _; exact Z.on (Z.mv rfl))
          case q2x0_17 => (intro _; exact Z.on (Z.ia sl23 rfl rfl (by omega) (by assumption) (by rfl)))
          case q2x0_18 => exact Z.on (Z.lpc ty9 rfl)
          case q2x0_19 => (intro _; exact Z.on (Z.tT (Z.call rfl rfl (fun _ => lessR_spec _ _ hpb _)) (by assumption)))
          case q2x0_20 => (intro _; exact Z.on (Z.not rfl))
          case q2x0_21 => (intro _; exact Z.on (Z.pick rfl rfl))
          case q2x0_22 => (intro _; exact Z.pick rfl rfl)
          refine CH.nil <| ?_
          simp only [app, finL]
          refine UQ.then <| S.cF rfl rfl <| UW.skip <| UQ.blockN <| UQ.then <| S.rg <| Q.mv rfl <| S.qu (Z.add (r := ((j + 1 : Nat) : Int)) rfl rfl (IntWalk.i64_in _ (by omega))) <| Q.as rfl <| US.nil <| ?_
          refine S.back _ ⟨rfl, rfl, trivial⟩ (.refl _) ?_ (by omega)
          focus (exact ⟨by omega, good hok⟩; done)
        | false =>
          have hL2 : (!(lessB (ks.getD (j - 1) ⟨#[]⟩) ks[j])) = true := by rw [hL]; rfl
          have hb := bad (by
            unfold lessB at hL
            unfold okKey; rw [hge, hL, decide_eq_false (by omega : ¬ j = 0)]; simp)
          refine S.sq <| Q.rg <| Q.mv rfl <| Q.mv rfl <| S.qu (Z.lns sl23 rfl) <| Q.bi rfl rfl rfl <| Q.nt <| S.cT rfl (decide_eq_true (by omega)) <| UW.skip <| UQ.then <| S.sq <| UW.block <| S.sq <| ?_
          refine' UW.draw' (by kernel_rfl) [0, 0, 3, 7, 15, 31, 63, 127, 255, 511, 1023, 1023, 3071, 8191, 16383, 1023, 1023, 99327, 230399, 524287, 1048575, 2097151, 4194303] [some 10, some 11, some 12, some 13, some 14, some 15, some 16, some 17, some 18, some 19, some 20, some 21, some 22, some 23, some 24, some 25, some 26, some 27, some 28, some 29, some 30, some 31, some 32] [some (10, _), some (11, _), some (12, _), some (13, _), some (14, _), some (15, _), some (16, _), some (17, _), some (18, _), some (19, _), some (20, _), some (21, _), some (22, _), some (23, _), some (24, _), some (25, _), some (26, _), some (27, _), some (28, _), some (29, _), some (30, _), some (31, _), some (32, _)] [] [3, 14, 18] rfl (by decide) (by decide) (QAll.free (by decide) rfl rfl ?q3x0_0 (QAll.free (by decide) rfl rfl ?q3x0_1 (QAll.free (by decide) rfl rfl ?q3x0_2 (QAll.held (by decide) rfl rfl ?q3x0_3 (QAll.free (by decide) rfl rfl ?q3x0_4 (QAll.free (by decide) rfl rfl ?q3x0_5 (QAll.free (by decide) rfl rfl ?q3x0_6 (QAll.free (by decide) rfl rfl ?q3x0_7 (QAll.free (by decide) rfl rfl ?q3x0_8 (QAll.free (by decide) rfl rfl ?q3x0_9 (QAll.free (by decide) rfl rfl ?q3x0_10 (QAll.free (by decide) rfl rfl ?q3x0_11 (QAll.free (by decide) rfl rfl ?q3x0_12 (QAll.free (by decide) rfl rfl ?q3x0_13 (QAll.held (by decide) rfl rfl ?q3x0_14 (QAll.free (by decide) rfl rfl ?q3x0_15 (QAll.free (by decide) rfl rfl ?q3x0_16 (QAll.free (by decide) rfl rfl ?q3x0_17 (QAll.held (by decide) rfl rfl ?q3x0_18 (QAll.free (by decide) rfl rfl ?q3x0_19 (QAll.free (by decide) rfl rfl ?q3x0_20 (QAll.free (by decide) rfl rfl ?q3x0_21 (QAll.free (by decide) rfl rfl ?q3x0_22 QAll.nil))))))))))))))))))))))) ?q3x0_k
          case q3x0_0 => (intro _; exact Z.mv rfl)
          case q3x0_1 => (intro _; exact Z.mv rfl)
          case q3x0_2 => (intro _; exact Z.ia sl23 rfl rfl (by omega) (by assumption) (by rfl))
          case q3x0_3 => exact Z.lpc ty9 rfl
          case q3x0_4 => (intro _; exact Z.call rfl rfl (fun _ => checkR_spec' _ (hks _ (List.getElem_mem hlt)) _))
          case q3x0_5 => (intro _; exact Z.tF (Z.bi rfl rfl rfl) (decide_eq_false (by omega)))
          case q3x0_6 => (intro _; exact Z.mv rfl)
          case q3x0_7 => (intro _; exact Z.on (Z.mv rfl))
          case q3x0_8 => (intro _; exact Z.on (Z.tT (Z.bi rfl rfl rfl) (decide_eq_true (by omega))))
          case q3x0_9 => (intro _; exact Z.on (Z.mv rfl))
          case q3x0_10 => (intro _; exact Z.on (Z.mv rfl))
          case q3x0_11 => (intro _; exact Z.on (Z.mv rfl))
          case q3x0_12 => (intro _; exact Z.on (Z.sub rfl rfl (IntWalk.i64_in _ (by omega))))
          case q3x0_13 => (intro _; exact Z.on (Z.ia sl23 rfl rfl (by omega) (by assumption) (by rfl)))
          case q3x0_14 => exact Z.on (Z.lpc ty9 rfl)
          case q3x0_15 => (intro _; exact Z.on (Z.mv rfl))
          case q3x0_16 => (intro _; exact Z.on (Z.mv rfl))
          case q3x0_17 => (intro _; exact Z.on (Z.ia sl23 rfl rfl (by omega) (by assumption) (by rfl)))
          case q3x0_18 => exact Z.on (Z.lpc ty9 rfl)
          case q3x0_19 => (intro _; exact Z.on (Z.tF (Z.call rfl rfl (fun _ => lessR_spec _ _ hpb _)) (by assumption)))
          case q3x0_20 => (intro _; exact Z.on (Z.not rfl))
          case q3x0_21 => (intro _; exact Z.on (Z.pick rfl rfl))
          case q3x0_22 => (intro _; exact Z.pick rfl rfl)
          refine CH.nil <| ?_
          simp only [app, finL]
          refine UQ.then <| S.cT rfl rfl <| Q.rg <| Q.as rfl <| Q.nt <| UW.ret <| UQ.blockR <| UQ.passR <| UQ.passR <| UQ.blockR <| UQ.passR <| S.rtR (fun _ => res_tmp rfl rfl) <| ?_
          focus (rw [hb]; done)
      · have hok : okKey ks j = true := by unfold okKey; rw [hge, decide_eq_true (by omega : j = 0), decide_eq_true (by omega)]; rfl
        refine S.sq <| Q.rg <| Q.mv rfl <| Q.mv rfl <| S.qu (Z.lns sl23 rfl) <| Q.bi rfl rfl rfl <| Q.nt <| S.cT rfl (decide_eq_true (by omega)) <| UW.skip <| UQ.then <| S.sq <| UW.block <| S.sq <| ?_
        refine' UW.draw' (by kernel_rfl) [0, 0, 3, 7, 15, 31, 63, 127, 255, 511, 1023, 1023, 3071, 8191, 16383, 1023, 1023, 99327, 230399, 524287, 1048575, 2097151, 4194303] [some 10, some 11, some 12, some 13, some 14, some 15, some 16, some 17, some 18, some 19, some 20, some 21, some 22, some 23, some 24, some 25, some 26, some 27, some 28, some 29, some 30, some 31, some 32] [some (10, _), some (11, _), some (12, _), some (13, _), some (14, _), some (15, _), some (16, _), some (17, _), some (18, _), some (19, _), some (20, _), some (21, _), some (22, _), some (23, _), some (24, _), some (25, _), some (26, _), some (27, _), some (28, _), some (29, _), some (30, _), some (31, _), some (32, _)] [] [3, 14, 18] rfl (by decide) (by decide) (QAll.free (by decide) rfl rfl ?q4x0_0 (QAll.free (by decide) rfl rfl ?q4x0_1 (QAll.free (by decide) rfl rfl ?q4x0_2 (QAll.held (by decide) rfl rfl ?q4x0_3 (QAll.free (by decide) rfl rfl ?q4x0_4 (QAll.free (by decide) rfl rfl ?q4x0_5 (QAll.free (by decide) rfl rfl ?q4x0_6 (QAll.free (by decide) rfl rfl ?q4x0_7 (QAll.free (by decide) rfl rfl ?q4x0_8 (QAll.free (by decide) rfl rfl ?q4x0_9 (QAll.free (by decide) rfl rfl ?q4x0_10 (QAll.free (by decide) rfl rfl ?q4x0_11 (QAll.free (by decide) rfl rfl ?q4x0_12 (QAll.free (by decide) rfl rfl ?q4x0_13 (QAll.held (by decide) rfl rfl ?q4x0_14 (QAll.free (by decide) rfl rfl ?q4x0_15 (QAll.free (by decide) rfl rfl ?q4x0_16 (QAll.free (by decide) rfl rfl ?q4x0_17 (QAll.held (by decide) rfl rfl ?q4x0_18 (QAll.free (by decide) rfl rfl ?q4x0_19 (QAll.free (by decide) rfl rfl ?q4x0_20 (QAll.free (by decide) rfl rfl ?q4x0_21 (QAll.free (by decide) rfl rfl ?q4x0_22 QAll.nil))))))))))))))))))))))) ?q4x0_k
        case q4x0_0 => (intro _; exact Z.mv rfl)
        case q4x0_1 => (intro _; exact Z.mv rfl)
        case q4x0_2 => (intro _; exact Z.ia sl23 rfl rfl (by omega) (by assumption) (by rfl))
        case q4x0_3 => exact Z.lpc ty9 rfl
        case q4x0_4 => (intro _; exact Z.call rfl rfl (fun _ => checkR_spec' _ (hks _ (List.getElem_mem hlt)) _))
        case q4x0_5 => (intro _; exact Z.tF (Z.bi rfl rfl rfl) (decide_eq_false (by omega)))
        case q4x0_6 => (intro _; exact Z.mv rfl)
        case q4x0_7 => (intro _; exact Z.on (Z.mv rfl))
        case q4x0_8 => (intro _; exact Z.on (Z.tF (Z.bi rfl rfl rfl) (decide_eq_false (by omega))))
        case q4x0_9 => (intro _; exact Z.on (Z.mv rfl))
        case q4x0_10 => (intro _; exact Z.of)
        case q4x0_11 => (intro _; exact Z.of)
        case q4x0_12 => (intro _; exact Z.of)
        case q4x0_13 => (intro _; exact Z.of)
        case q4x0_14 => exact Z.of
        case q4x0_15 => (intro _; exact Z.of)
        case q4x0_16 => (intro _; exact Z.of)
        case q4x0_17 => (intro _; exact Z.of)
        case q4x0_18 => exact Z.of
        case q4x0_19 => (intro _; exact Z.of)
        case q4x0_20 => (intro _; exact Z.of)
        case q4x0_21 => (intro _; exact Z.on (Z.pick rfl rfl))
        case q4x0_22 => (intro _; exact Z.pick rfl rfl)
        refine CH.nil <| ?_
        simp only [app, finL]
        refine UQ.then <| S.cF rfl rfl <| UW.skip <| UQ.blockN <| UQ.then <| S.rg <| Q.mv rfl <| S.qu (Z.add (r := ((j + 1 : Nat) : Int)) rfl rfl (IntWalk.i64_in _ (by omega))) <| Q.as rfl <| US.nil <| ?_
        refine S.back _ ⟨rfl, rfl, trivial⟩ (.refl _) ?_ (by omega)
        focus (exact ⟨by omega, good hok⟩; done)
  · refine S.sq <| Q.rg <| Q.mv rfl <| Q.mv rfl <| S.qu (Z.lns sl23 rfl) <| Q.bi rfl rfl rfl <| Q.nt <| S.cF rfl (decide_eq_false (by omega)) <| UW.exit <| UQ.pass <| UQ.pass <| UQ.here <| UQ.then <| Q.rg <| Q.as rfl <| Q.nt <| UW.ret <| S.rtR (fun _ => res_tmp rfl rfl) <| ?_
    have : keysOk ks = true := by
      unfold keysOk
      rw [List.all_eq_true]
      exact fun i hi => hjj i (by have := List.mem_range.1 hi; omega)
    rw [this]
end Go.Proofs.YtgmfgmbgmjbdhaaGreatDoor
end
