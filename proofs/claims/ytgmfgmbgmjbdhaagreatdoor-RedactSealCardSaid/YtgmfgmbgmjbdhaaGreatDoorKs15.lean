/- strings.Builder: what its methods do. · Copies. · Places, reading by a key. -/
import Derived.Test.YtgmfgmbgmjbdhaaGreatDoorKs14
import Derived.Test.YtgmfgmbgmjbdhaaGreatDoorKs11
section
namespace Go.Proofs.YtgmfgmbgmjbdhaaGreatDoor
open Go Go.RowKit Go.Eng
set_option linter.unusedSimpArgs false
set_option linter.unusedVariables false
set_option maxRecDepth 100000
set_option maxHeartbeats 4000000
/-- One byte. -/
def byteB (c : Int) : ByteArray := ⟨#[UInt8.ofNat c.toNat]⟩
theorem strRows_app (a b : ByteArray) : strRows (a ++ b) = strRows a ++ strRows b := by
  unfold strRows
  rw [← List.map_append]
  congr 1
theorem byteB_size (c : Int) : (byteB c).size = 1 := rfl
theorem strRows_byte {c : Int} (h0 : 0 ≤ c) (h1 : c < 256) : strRows (byteB c) = [[.v (.int .u8 c)]] := by
  unfold strRows byteB
  simp only [List.map_cons, List.map_nil]
  have e : (((UInt8.ofNat c.toNat).toNat : Nat) : Int) = c := by
    rw [UInt8.toNat_ofNat', Nat.mod_eq_of_lt (by omega)]; omega
  rw [e]
theorem app_size (a b : ByteArray) : (a ++ b).size = a.size + b.size := by simp
/-- A builder at p, its bytes in the row r. -/
def bld (p r : Nat) (a : AV) (s : ByteArray) : List (Nat × Ob) := [(r, .row 5 1 (strRows s)), (p, .box 82 [a, .own r 0 s.size 1])]
/-- What a builder's first cell may be. -/
def Adr (p : Nat) (a : AV) : Prop := a = .v (.pointer none) ∨ a = .ptr p 0
/-- A builder that holds so much. -/
def BldR (p : Nat) (s : ByteArray) (u v : AV) (news : List (Nat × Ob)) : Prop := v = u ∧ ∃ r, news = bld p r (.ptr p 0) s
theorem copyCheck_spec (p r : Nat) (a : AV) (ha : Adr p a) (s : ByteArray) (G : Hp) (hd : Dist G (bld p r a s)) : ACall Tryz.prog 119 [.ptr p 0] (extH G (bld p r a s)) (fun u H' => ∃ news, Dist G news ∧ H' = extH G news ∧ (u = .tup [] ∧ news = bld p r (.ptr p 0) s)) := by
  unfold bld at hd ⊢
  have hd2 : Dist G [(r, .row 5 1 (strRows s)), (p, .box 82 [.ptr p 0, .own r 0 s.size 1])] := hd.set_ (k := 1) _ rfl |>.2
  rcases ha with rfl | rfl
  · refine UCall (n := 20) (H0 := G) (objs := [(r, .row 5 1 (strRows s)), (p, .box 82 [.v (.pointer none), .own r 0 s.size 1])]) Tryz.func119 (by kernel_rfl) rfl (by rw [Tryz.ntmps119]; rfl) hd ?_
    refine S.sq (S.rg ?_)
    refine S.qu (Z.mv rfl) ?_
    refine S.qu (Z.nck rfl) ?_
    refine S.qu (Z.fa f82_0 rfl) ?_
    refine S.qu (Z.ldc 1 ty80 rfl rfl rfl) ?_
    refine S.qu (Z.pnt Tryz.underlying80 rfl) ?_
    refine US.nil (UQ.then ?_)
    refine S.cT rfl rfl ?_
    refine S.rg ?_
    refine S.qu (Z.mv rfl) ?_
    refine S.qu (Z.mv rfl) ?_
    refine S.qu (Z.tou 1 Tryz.underlying80 Tryz.underlying147 rfl rfl (by simp)) ?_
    refine S.qu (Z.nox Tryz.func139 rfl rfl) ?_
    refine S.qu (Z.fru 1 Tryz.underlying147 Tryz.underlying80 rfl rfl rfl) ?_
    refine S.qu (Z.nck rfl) ?_
    refine S.qu (Z.fa f82_0 rfl) ?_
    refine S.s (D.st 1 ty80 rfl rfl rfl rfl rfl rfl rfl rfl (fun _ => ?_))
    refine US.nil ?_
    exact retN [_, _] (fun _ => res_none rfl) (.refl _) fun hd => ⟨_, hd, rfl, rfl, rfl⟩
  · refine UCall (n := 20) (H0 := G) (objs := [(r, .row 5 1 (strRows s)), (p, .box 82 [.ptr p 0, .own r 0 s.size 1])]) Tryz.func119 (by kernel_rfl) rfl (by rw [Tryz.ntmps119]; rfl) hd ?_
    refine S.sq (S.rg ?_)
    refine S.qu (Z.mv rfl) ?_
    refine S.qu (Z.nck rfl) ?_
    refine S.qu (Z.fa f82_0 rfl) ?_
    refine S.qu (Z.ldc 1 ty80 rfl rfl rfl) ?_
    refine S.qu (Z.pnf Tryz.underlying80 rfl) ?_
    refine US.nil (UQ.then ?_)
    refine S.cF rfl rfl ?_
    refine S.sq (S.rg ?_)
    refine S.qu (Z.mv rfl) ?_
    refine S.qu (Z.nck rfl) ?_
    refine S.qu (Z.fa f82_0 rfl) ?_
    refine S.qu (Z.ldc 1 ty80 rfl rfl rfl) ?_
    refine S.qu (Z.mv rfl) ?_
    refine S.qu (Z.pne Tryz.underlying80 rfl rfl) ?_
    refine US.nil (UQ.then ?_)
    refine S.cF rfl rfl ?_
    refine UW.skip ?_
    exact retN [_, _] (fun _ => res_none rfl) (.refl _) fun hd => ⟨_, hd, rfl, rfl, rfl⟩
theorem writeByte_spec (p r : Nat) (a : AV) (ha : Adr p a) (s : ByteArray) (hs : s.size ≤ 100000000000000) (c : Int) (h0 : 0 ≤ c) (h1 : c < 256) (G : Hp) (hd : Dist G (bld p r a s)) : ACall Tryz.prog 84 [.ptr p 0, .v (.int .u8 c)] (extH G (bld p r a s)) (fun u H' => ∃ news, Dist G news ∧ H' = extH G news ∧ BldR p (s ++ byteB c) (.v .nilIface) u news) := by
  have hcc := fun G hd => copyCheck_spec p r a ha s G hd
  have hl := strRows_len s
  have hrw : (strRows s).take s.size ++ [[.v (.int .u8 c)]] = strRows (s ++ byteB c) := by rw [strRows_app, strRows_byte h0 h1, List.take_of_length_le (by omega)]
  have hsz : s.size + 1 = (s ++ byteB c).size := by rw [app_size, byteB_size]
  unfold bld at hd hcc ⊢
  refine UCall (n := 17) (H0 := G) (objs := [(r, .row 5 1 (strRows s)), (p, .box 82 [a, .own r 0 s.size 1])]) Tryz.func84 (by kernel_rfl) rfl (by rw [Tryz.ntmps84]; rfl) hd ?_
  refine S.sq (S.rg ?_)
  refine S.qu (Z.as rfl) ?_
  refine US.nil (UQ.then (S.sq (S.rg ?_)))
  refine S.qu (Z.mv rfl) ?_
  refine S.dd (D.co (.cons 0 rfl (.cons 0 rfl .nil)) rfl rfl (fun G hD => hcc G hD) ?_)
  rintro _ _ ⟨rfl, rfl⟩
  refine US.nil (UQ.then (S.sq (S.rg ?_)))
  refine S.qu (Z.mv rfl) ?_
  refine S.qu (Z.mv rfl) ?_
  refine S.qu (Z.nck rfl) ?_
  refine S.qu (Z.fa f82_1 rfl) ?_
  refine S.qu (Z.ldc 1 ty22 rfl rfl rfl) ?_
  refine S.qu (Z.mv rfl) ?_
  refine S.qu (Z.bl row22 rfl rfl (lit_ok rfl)) ?_
  refine S.dd (D.ap 0 row22 rfl rfl (by omega) rfl (.sl (lit_sz rfl)) (by first | omega | (simp; omega)) hrw (fun p14 => ?_))
  refine S.qu (Z.nck rfl) ?_
  refine S.qu (Z.fa f82_1 rfl) ?_
  refine S.s (D.st 1 ty22 rfl rfl rfl rfl rfl rfl rfl rfl (fun _ => ?_))
  refine US.nil (UQ.then (S.sq (S.rg ?_)))
  refine S.qu (Z.as rfl) ?_
  refine US.nil (UQ.then (UW.ret ?_))
  exact retR [_, _] (fun _ => res_tmp rfl rfl) (.refl _) fun hd => ⟨_, hd, rfl, rfl, _, by unfold bld; rw [← hsz]; rfl⟩
theorem writeString_spec (p r : Nat) (a : AV) (ha : Adr p a) (s : ByteArray) (hs : s.size ≤ 100000000000000) (t : ByteArray) (ht : t.size ≤ 10000000000000) (G : Hp) (hd : Dist G (bld p r a s)) : ACall Tryz.prog 114 [.ptr p 0, .v (.string t)] (extH G (bld p r a s)) (fun u H' => ∃ news, Dist G news ∧ H' = extH G news ∧ BldR p (s ++ t) (.tup [.v (.int .i64 (t.size : Int)), .v .nilIface]) u news) := by
  have hcc := fun G hd => copyCheck_spec p r a ha s G hd
  have hl := strRows_len s
  have hrw : (strRows s).take s.size ++ strRows t = strRows (s ++ t) := by rw [strRows_app, List.take_of_length_le (by omega)]
  have hsz : s.size + t.size = (s ++ t).size := by rw [app_size]
  unfold bld at hd hcc ⊢
  refine UCall (n := 19) (H0 := G) (objs := [(r, .row 5 1 (strRows s)), (p, .box 82 [a, .own r 0 s.size 1])]) Tryz.func114 (by kernel_rfl) rfl (by rw [Tryz.ntmps114]; rfl) hd ?_
  refine S.sq (S.rg ?_)
  refine S.qu (Z.as rfl) ?_
  refine S.qu (Z.as rfl) ?_
  refine US.nil (UQ.then (S.sq (S.rg ?_)))
  refine S.qu (Z.mv rfl) ?_
  refine S.dd (D.co (.cons 0 rfl (.cons 0 rfl .nil)) rfl rfl (fun G hD => hcc G hD) ?_)
  rintro _ _ ⟨rfl, rfl⟩
  refine US.nil (UQ.then (S.sq (S.rg ?_)))
  refine S.qu (Z.mv rfl) ?_
  refine S.qu (Z.mv rfl) ?_
  refine S.qu (Z.nck rfl) ?_
  refine S.qu (Z.fa f82_1 rfl) ?_
  refine S.qu (Z.ldc 1 ty22 rfl rfl rfl) ?_
  refine S.qu (Z.mv rfl) ?_
  refine S.dd (D.aps 0 row22 z5 Tryz.underlying9 rfl rfl (by omega) rfl (by omega) hrw (fun p14 => ?_))
  refine S.qu (Z.nck rfl) ?_
  refine S.qu (Z.fa f82_1 rfl) ?_
  refine S.s (D.st 1 ty22 rfl rfl rfl rfl rfl rfl rfl rfl (fun _ => ?_))
  refine US.nil (UQ.then (S.sq (S.rg ?_)))
  refine S.qu (Z.mv rfl) ?_
  refine S.qu (Z.lnt Tryz.underlying9 rfl) ?_
  refine S.qu (Z.as rfl) ?_
  refine S.qu (Z.as rfl) ?_
  refine US.nil (UQ.then (UW.ret ?_))
  exact retR [_, _] (fun hd => res_two rfl (res1_tmp rfl) (res1_tmp rfl)) (.refl _) fun hd => ⟨_, hd, rfl, rfl, _, by unfold bld; rw [← hsz]⟩
theorem bldString_spec (p r : Nat) (a : AV) (s : ByteArray) (hs : 0 < s.size) (hm : s.size ≤ 100000000000000) (G : Hp) (hd : Dist G (bld p r a s)) : ACall Tryz.prog 85 [.ptr p 0] (extH G (bld p r a s)) (fun u H' => ∃ news, Dist G news ∧ H' = extH G news ∧ (u = .v (.string s) ∧ news = [])) := by
  have hl := strRows_len s
  unfold bld at hd ⊢
  refine UCall (n := 14) (H0 := G) (objs := [(r, .row 5 1 (strRows s)), (p, .box 82 [a, .own r 0 s.size 1])]) Tryz.func85 (by kernel_rfl) rfl (by rw [Tryz.ntmps85]; rfl) hd ?_
  refine S.sq (S.rg ?_)
  refine S.qu (Z.as rfl) ?_
  refine US.nil (UQ.then (S.sq ?_))
  refine' UW.drawk (by kernel_rfl) [1] [0, 1, 3, 7, 15, 0, 32, 96, 224, 480, 1023, 2047] [some 3, some 4, some 5, some 6, none, some 8, some 9, some 10, some 11, some 12, none, none] [some (3, _), some (4, _), some (5, _), some (6, _), none, some (8, _), some (9, _), some (10, _), some (11, _), some (12, _), none, none] [4, 10, 11] [3] rfl (by decide) (by decide) (QAll.free (by decide) rfl rfl ?q4x0_0 (QAll.free (by decide) rfl rfl ?q4x0_1 (QAll.free (by decide) rfl rfl ?q4x0_2 (QAll.held (by decide) rfl rfl ?q4x0_3 (QAll.skip (QAll.free (by decide) rfl rfl ?q4x0_5 (QAll.free (by decide) rfl rfl ?q4x0_6 (QAll.free (by decide) rfl rfl ?q4x0_7 (QAll.kept (by decide) rfl rfl ?q4x0_8 (QAll.free (by decide) rfl rfl ?q4x0_9 (QAll.skip (QAll.skip QAll.nil)))))))))))) ?q4x0_k
  case q4x0_0 => (intro _; exact Z.mv rfl)
  case q4x0_1 => (intro _; exact Z.nck rfl)
  case q4x0_2 => (intro _; exact Z.fa f82_1 rfl)
  case q4x0_3 => exact Z.ldc 1 ty22 rfl rfl rfl
  case q4x0_5 => (intro _; exact Z.mv rfl)
  case q4x0_6 => (intro _; exact Z.nck rfl)
  case q4x0_7 => (intro _; exact Z.fa f82_1 rfl)
  case q4x0_8 => (intro _ hK; exact Z.kc 0 hK ty22 rfl rfl rfl)
  case q4x0_9 => (intro _; exact Z.lno sl22 rfl)
  refine CH.cons rfl rfl (by decide) ?_ (.c 1 rfl .n)
  refine D.qu (Z.usd 0 rfl rfl (by omega)) ?_
  refine CH.cons rfl rfl (by decide) ?_ (.c 1 rfl .n)
  refine D.ust 0 Tryz.underlying117 (by kernel_rfl) rfl rfl rfl (by omega) (by omega) ?_
  refine CH.cons rfl rfl (by decide) ?_ (.c 0 rfl .n)
  refine D.qu (Z.as rfl) ?_
  refine CH.nil ?_ (.c 0 rfl .n)
  simp only [app, finL]
  refine UQ.then (UW.ret ?_)
  exact retR [] (fun _ => res_tmp rfl rfl) (List.nil_sublist _) fun hd => ⟨[], .nil, rfl, rfl, rfl⟩
end Go.Proofs.YtgmfgmbgmjbdhaaGreatDoor
end
section
namespace Go.Proofs.YtgmfgmbgmjbdhaaGreatDoor
open Go Go.RowKit Go.Eng
set_option maxRecDepth 100000
set_option linter.unusedSimpArgs false
set_option linter.unusedVariables false
/-- A new row of one's own, beside the heap. -/
def NewRow (H : Hp) (e sz : Nat) (rows : List (List AV)) (u : AV) (H' : Hp) : Prop := ∃ news, Dist H news ∧ H' = extH H news ∧ ∃ i, u = .own i 0 rows.length sz ∧ news = [(i, .row e sz rows)]
theorem strs_sz (l : List ByteArray) : ∀ cs ∈ l.map encS, cs.length = 1 := by
  intro cs h; obtain ⟨s, _, rfl⟩ := List.mem_map.1 h; rfl
theorem encVs_len (l : List V) : (encVs l).length = l.length := by rw [encVs_eq, List.length_map]
theorem encVs_sz (l : List V) : ∀ cs ∈ encVs l, cs.length = 5 := by
  intro cs h; rw [encVs_eq] at h; obtain ⟨s, _, rfl⟩ := List.mem_map.1 h; exact encV_len s
theorem clone_spec (l : List ByteArray) (hl : l.length * 16 ≤ 140737488355328) (H : Hp) :
    ACall Tryz.prog 104 [strs l] H (NewRow H 9 1 (l.map encS)) := by
  refine UCall (n := 8) (H0 := H) (objs := []) Tryz.func104 (by kernel_rfl) rfl (by rw [Tryz.ntmps104]; rfl) .nil <| ?_
  refine Q.rg <| Q.as rfl <| Q.nt <| UW.seq <| Q.rg <| Q.mv rfl <| US.eql_nil rfl (by decide) rfl rfl Tryz.underlying23 rfl fun c4 hc4 => Q.nt <| ?_
  refine UW.cond rfl (fun h => ?_) (fun h => ?_)
  · have hl0 := hc4 h
    refine Q.rg <| Q.as rfl <| US.nilOwn 2 9 1 (by decide) rfl fun i => US.nil <| UQ.then <| UW.ret <| UQ.passR <| retR [(i, .row 9 1 [])] (fun _ => res_tmp rfl rfl) (by simp) fun hd => ?_
    exact ⟨_, hd, rfl, i, by rw [hl0]; rfl, by rw [hl0]⟩
  · refine UW.skip <| UQ.then <| Q.rg <| US.lit rfl (by decide) rfl rfl row23 (by decide) rfl rfl rfl (by simp) fun p5 => ?_
    refine Q.mv rfl <| US.append_own rfl (by decide) rfl rfl row23 rfl (k := 0) rfl (by simp) rfl (SrcO.sl (strs_sz l)) (by simp; omega) rfl fun p7 => ?_
    refine Q.as rfl <| Q.nt <| UW.ret <| retR [(p7, _)] (fun _ => res_tmp rfl rfl) (.refl _) fun hd => ?_
    exact ⟨_, hd, rfl, p7, by simp, by simp⟩
/-- The parts of a list are small. -/
inductive Fits : V → Prop
  | mk (k n : Int) (t : ByteArray) (ks : List ByteArray) (vs : List V) (h1 : ks.length ≤ 1000000) (h2 : vs.length ≤ 1000000) (h : ∀ x ∈ vs, Fits x) : Fits (.mk k n t ks vs)
/-- What a copy gives: its rows are new. -/
def CopyR (H : Hp) (x : V) (u : AV) (H' : Hp) : Prop := ∃ news, Dist H news ∧ H' = extH H news ∧ ∃ i j, u = .agg [.v (.int .i64 x.k), .v (.int .i64 x.n), .v (.string x.t), .own i 0 x.ks.length 1, .own j 0 x.vs.length 5] ∧ news = [(j, .row 26 5 (encVs x.vs)), (i, .row 9 1 (x.ks.map encS))]
theorem encVs_get (l : List V) (k : Nat) (h : k < l.length) : (encVs l)[k]? = some (encV l[k]) := by rw [encVs_eq, List.getElem?_map, List.getElem?_eq_getElem h]; rfl
theorem encVs_snoc (l : List V) (k : Nat) (h : k < l.length) : (encVs l).take k ++ [encV l[k]] = (encVs l).take (k + 1) := by
  rw [List.take_add_one, encVs_get l k h]; rfl
theorem eachCopy_spec (l : List V) (hl : l.length ≤ 1000000) (hc : ∀ x ∈ l, ∀ H, ACall Tryz.prog 68 [.agg (encV x)] H (IsR H (.agg (encV x)))) (H : Hp) :
    ACall Tryz.prog 105 [.sl (encVs l), .clo 68 []] H (NewRow H 26 5 (encVs l)) := by
  refine UCall (n := 22) (H0 := H) (objs := []) Tryz.func105 (by kernel_rfl) rfl (by rw [Tryz.ntmps105]; rfl) .nil <| ?_
  refine Q.rg <| Q.as rfl <| Q.nt <| Q.rg <| Q.as rfl <| US.nilOwn 5 26 5 (by decide) rfl fun i0 => US.nil <| UQ.then <| UW.seq <| Q.rg <| Q.mv rfl <| US.len_sl rfl (by decide) rfl rfl sl24 rfl <| Q.mv rfl <| Q.nt <| UW.block <| UW.loop (fun p : Nat × Nat => [(10, .v (.int .i64 (p.1 : Int))), (5, .own p.2 0 p.1 5), (8, .sl (encVs l)), (9, .v (.int .i64 ((encVs l).length : Int))), (1, .clo 68 [])]) (fun p => [(p.2, .row 26 5 ((encVs l).take p.1))]) (fun p => p.1 ≤ l.length) (fun p => l.length - p.1) (0, i0) (Nat.zero_le _) ⟨rfl, rfl, rfl, rfl, rfl, trivial⟩ (.refl _) <| ?_
  rintro ⟨k, id⟩ hk
  simp only at hk
  have hll := encVs_len l
  refine Q.rg <| Q.bi rfl rfl rfl <| Q.nt <| UW.seq <| ?_
  refine UW.cond rfl (fun h => ?_) (fun h => ?_)
  · have h := of_decide_eq_true h
    have hlt : k < l.length := by omega
    refine UW.skip <| UQ.then <| UW.seq <| UW.block <| Q.rg <| US.indexAddr_sl rfl (by decide) rfl rfl sl24 rfl rfl (by omega) (encVs_get l k hlt) (encV_len _) <| US.load_rp_agg rfl (by decide) rfl rfl rfl ty26 (by exact encV_len _) <| ?_
    refine US.allocN rfl (by decide) rfl rfl z26 rfl rfl rfl rfl fun p7 => US.st_whole rfl rfl rfl ty26 rfl (k := 0) rfl (by rfl) rfl rfl (by exact encV_cell _) (by exact encV_len _) rfl <| ?_
    refine Q.nt <| UW.region <| Q.mv rfl <| Q.mv rfl <| US.ld_whole rfl (by decide) rfl rfl ty26 rfl (k := 0) rfl (by exact encV_len _) <| ?_
    refine US.call_pure rfl (by decide) rfl rfl rfl rfl (fun _ => hc _ (List.getElem_mem hlt) _) <| US.lit_sl rfl (by decide) rfl rfl row24 (by decide) rfl rfl rfl (by (intro cs h; cases List.mem_singleton.1 h; exact ⟨by exact encV_cell _, by exact encV_len _⟩)) <| ?_
    refine US.append_own rfl (by decide) rfl rfl row24 rfl (k := 1) rfl (by rw [List.length_take]; omega) rfl (SrcO.sl (fun cs h => by cases List.mem_singleton.1 h; exact encV_len _)) (by (simp; omega)) (Eq.trans (by rw [List.take_take, Nat.min_self]) (encVs_snoc l k hlt)) fun p19 => ?_
    refine Q.as rfl <| US.nil <| UQ.blockN <| UQ.then <| UW.region <| US.add rfl (by decide) rfl rfl rfl rfl (IntWalk.i64_in _ (by omega)) <| Q.mv rfl <| ?_
    exact US.round (a' := (k + 1, p19)) (by simp only; omega) (by simp only; omega) ⟨rfl, rfl, rfl, rfl, rfl, trivial⟩ (by simp)
  · have h := of_decide_eq_false h
    have hkl : k = l.length := by simp only at h; omega
    refine UW.exit <| UQ.pass <| UQ.pass <| UQ.here <| UQ.then <| Q.rg <| Q.mv rfl <| Q.as rfl <| Q.nt <| UW.ret <| retR [(id, _)] (fun _ => res_tmp rfl rfl) (.refl _) fun hd => ?_
    exact ⟨_, hd, rfl, id, by rw [hll, hkl], by rw [hkl, ← hll, List.take_length]⟩
theorem extH_sub {H : Hp} {news : List (Nat × Ob)} (hd : Dist H news) : Sub H (extH H news) := sub_of_mem (r' := []) hd .nil (by simp)
theorem strs_own {H : Hp} {news : List (Nat × Ob)} (hd : Dist H news) {k i : Nat} {rows : List (List AV)} {e sz : Nat} (h : news[k]? = some (i, .row e sz rows)) : Turns (extH H news) (.own i 0 rows.length sz) H (.sl rows) := by
  have h1 := Turns.own (off := 0) (len := rows.length) (rows' := rows) (extH_sub hd) (hd.at_ h) (hd.base h) (by omega) rfl (fun i cs cs' h1 h2 => by
    rw [h1] at h2; cases h2
    exact ⟨rfl, fun j u u' h3 h4 => by rw [h3] at h4; cases h4; exact Turns.drop (extH_sub hd) u⟩)
  simpa using h1
theorem turns_five {H H' : Hp} {a b c d e d' e' : AV} (hs : Sub H' H) (h1 : Turns H d H' d') (h2 : Turns H e H' e') : Turns H (.agg [a, b, c, d, e]) H' (.agg [a, b, c, d', e']) := by
  refine Turns.agg rfl fun j u u' h3 h4 => ?_
  match j with
  | 0 => simp at h3 h4; subst h3 h4; exact Turns.drop hs _
  | 1 => simp at h3 h4; subst h3 h4; exact Turns.drop hs _
  | 2 => simp at h3 h4; subst h3 h4; exact Turns.drop hs _
  | 3 => simp at h3 h4; subst h3 h4; exact h1
  | 4 => simp at h3 h4; subst h3 h4; exact h2
  | j + 5 => simp at h3
theorem copyR_pure {P : Program} {f : Nat} {us : List AV} {H : Hp} {x : V} (h : ACall P f us H (CopyR H x)) : ACall P f us H (IsR H (.agg (encV x))) := by
  refine h.post <| ?_
  rintro u H1 ⟨news, hd, rfl, i, j, rfl, rfl⟩
  refine ⟨.agg (encV x), H, extH_sub hd, ?_, rfl, rfl⟩
  obtain ⟨k, n, t, ks, vs⟩ := x
  simp only [encV, V.k, V.n, V.t, V.ks, V.vs] at hd ⊢
  refine turns_five (extH_sub hd) ?_ ?_
  · have := strs_own hd (k := 1) rfl
    rwa [List.length_map] at this
  · have := strs_own hd (k := 0) rfl
    rwa [encVs_len] at this
theorem copy_spec (x : V) (hx : Fits x) : ∀ H, ACall Tryz.prog 68 [.agg (encV x)] H (CopyR H x) := by
  induction hx with
  | mk k n t ks vs h1 h2 h ih =>
  intro H
  refine UCall (n := 12) (H0 := H) (objs := []) Tryz.func68 (by kernel_rfl) rfl (by rw [Tryz.ntmps68]; rfl) .nil <| ?_
  refine Q.rg <| US.box rfl (by decide) rfl rfl rfl rfl (by rfl) fun p1 => ?_
  refine US.allocN rfl (by decide) rfl rfl z26 rfl rfl rfl rfl fun p2 => Q.nt <| Q.rg <| US.fieldAddr rfl (by decide) rfl rfl rfl f26_3 <| Q.lc 1 ty23 rfl rfl rfl <| ?_
  refine US.call_new rfl (by decide) rfl rfl rfl rfl (fun hd => clone_spec ks (by omega) _) ?_; rintro _ _ ⟨p5, rfl, rfl⟩; simp only [List.cons_append, List.nil_append]
  refine US.fieldAddr rfl (by decide) rfl rfl rfl f26_3 <| US.st_box rfl rfl rfl ty23 rfl (k := 2) rfl rfl rfl (by rfl) (by rfl) rfl rfl <| ?_
  refine Q.nt <| Q.rg <| US.fieldAddr rfl (by decide) rfl rfl rfl f26_4 <| Q.lc 2 ty24 rfl rfl rfl <| ?_
  refine US.call_new rfl (by decide) rfl rfl rfl rfl (fun hd => eachCopy_spec vs h2 (fun x hx H => copyR_pure (ih x hx H)) _) ?_; rintro _ _ ⟨p9, rfl, rfl⟩; simp only [List.cons_append, List.nil_append]
  refine US.fieldAddr rfl (by decide) rfl rfl rfl f26_4 <| US.st_box rfl rfl rfl ty24 rfl (k := 3) rfl rfl rfl (by rfl) (by rfl) rfl rfl <| ?_
  refine Q.nt <| Q.rg <| US.ld_whole rfl (by decide) rfl rfl ty26 rfl (k := 3) rfl (by rfl) <| ?_
  refine US.st_whole rfl rfl rfl ty26 rfl (k := 2) rfl (by rfl) rfl rfl (by rfl) (by rfl) rfl <| ?_
  refine Q.nt <| UW.ret <| ?_
  simp only [List.set_cons_succ, List.set_cons_zero]
  refine retR [(p9, _), (p5, _)] (fun hd => res_cell (k := 2) hd rfl rfl rfl st26 sz26) (.cons_cons _ (.cons_cons _ (List.nil_sublist _))) fun hd => ?_
  exact ⟨_, hd, rfl, p5, p9, by simp only [V.k, V.n, V.t, V.ks, V.vs, List.length_map, encVs_len], rfl⟩
end Go.Proofs.YtgmfgmbgmjbdhaaGreatDoor
end
section
namespace Go.Proofs.YtgmfgmbgmjbdhaaGreatDoor
open Go Go.RowKit Go.Eng
set_option maxRecDepth 100000
set_option linter.unusedSimpArgs false
set_option linter.unusedVariables false
def keyIdx (l : List ByteArray) (s : ByteArray) : Option Nat := l.findIdx? (fun x => s.toList == x.toList)
def oi : Option Nat → Int
  | none => -1
  | some i => i
theorem keyIdx_at {l : List ByteArray} {s : ByteArray} {k : Nat} (hk : k < l.length) (h : (s.toList == l[k].toList) = true) (hj : ∀ j (h : j < l.length), j < k → (s.toList == l[j].toList) = false) : keyIdx l s = some k := by
  unfold keyIdx
  rw [List.findIdx?_eq_some_iff_getElem]
  exact ⟨hk, h, fun j hjk => by rw [hj j (by omega) hjk]; simp⟩
theorem keyIdx_none {l : List ByteArray} {s : ByteArray} (hj : ∀ j (h : j < l.length), (s.toList == l[j].toList) = false) : keyIdx l s = none := by
  unfold keyIdx
  rw [List.findIdx?_eq_none_iff]
  intro x hx
  obtain ⟨j, hj2, rfl⟩ := List.getElem_of_mem hx
  exact hj j hj2
theorem keyIdx_lt {l : List ByteArray} {s : ByteArray} {i : Nat} (h : keyIdx l s = some i) : i < l.length := by
  unfold keyIdx at h
  rw [List.findIdx?_eq_some_iff_getElem] at h
  exact h.1
theorem strs_get (l : List ByteArray) (k : Nat) (h : k < l.length) : (l.map encS)[k]? = some (encS l[k]) := by rw [List.getElem?_map, List.getElem?_eq_getElem h]; rfl
theorem index_spec (l : List ByteArray) (s : ByteArray) (hl : l.length ≤ 1000000) (H : Hp) :
    ACall Tryz.prog 91 [strs l, .v (.string s)] H (IsR H (.v (.int .i64 (oi (keyIdx l s))))) := by
  refine UCall (n := 19) (H0 := H) (objs := []) Tryz.func91 (by kernel_rfl) rfl (by rw [Tryz.ntmps91]; rfl) .nil <| ?_
  refine Q.rg <| Q.as rfl <| Q.nt <| UW.seq <| Q.rg <| Q.mv rfl <| US.len_sl rfl (by decide) rfl rfl sl23 rfl <| Q.mv rfl <| Q.nt <| UW.block <| UW.loop (fun k : Nat => [(8, .v (.int .i64 (k : Int))), (6, strs l), (7, .v (.int .i64 ((l.map encS).length : Int))), (0, strs l), (1, .v (.string s))]) (fun _ => []) (fun k => k ≤ l.length ∧ ∀ j (h : j < l.length), j < k → (s.toList == l[j].toList) = false) (fun k => l.length - k) 0 ⟨Nat.zero_le _, fun j _ h => absurd h (by omega)⟩ ⟨rfl, rfl, rfl, rfl, rfl, trivial⟩ (.refl _) <| ?_
  rintro k ⟨hk, hj⟩
  refine Q.rg <| Q.bi rfl rfl rfl <| Q.nt <| UW.seq <| ?_
  refine UW.cond rfl (fun h => ?_) (fun h => ?_)
  · have h := of_decide_eq_true h
    rw [List.length_map] at h
    have hlt : k < l.length := by omega
    refine UW.skip <| UQ.then <| UW.seq <| UW.block <| Q.rg <| Q.mv rfl <| Q.as rfl <| Q.nt <| Q.rg <| Q.mv rfl <| Q.mv rfl <| Q.mv rfl <| US.indexAddr_sl rfl (by decide) rfl rfl sl23 rfl rfl (by omega) (strs_get l k hlt) rfl <| US.load_rp_cell rfl (by decide) rfl rfl rfl ty9 <| US.bin_str rfl (by decide) rfl rfl rfl rfl rfl <| Q.nt <| ?_
    refine UW.cond rfl (fun h2 => ?_) (fun h2 => ?_)
    · refine Q.rg <| Q.mv rfl <| Q.as rfl <| Q.nt <| UW.ret <| UQ.blockR <| UQ.passR <| UQ.passR <| UQ.blockR <| UQ.passR <| ?_
      refine retR [] (fun _ => res_tmp rfl rfl) (.refl _) fun hd => ⟨?_, rfl⟩
      rw [keyIdx_at hlt h2 hj]; rfl
    · refine UW.skip <| UQ.blockN <| UQ.then <| UW.region <| US.add rfl (by decide) rfl rfl rfl rfl (IntWalk.i64_in _ (by omega)) <| Q.mv rfl <| ?_
      exact US.round (a' := k + 1) ⟨by omega, fun j h3 h4 => by
        by_cases hjk : j = k
        · subst hjk; exact h2
        · exact hj j h3 (by omega)⟩ (by omega) ⟨rfl, rfl, rfl, rfl, rfl, trivial⟩ (.refl _)
  · have h := of_decide_eq_false h
    rw [List.length_map] at h
    refine UW.exit <| UQ.pass <| UQ.pass <| UQ.here <| UQ.then <| Q.rg <| Q.as rfl <| Q.nt <| UW.ret <| ?_
    refine retR [] (fun _ => res_tmp rfl rfl) (.refl _) fun hd => ⟨?_, rfl⟩
    rw [keyIdx_none (fun j h3 => hj j h3 (by omega))]; rfl
/-- A key's place in an object. -/
def pl (x : V) (key : ByteArray) : Option Nat := if x.k = 5 then (match keyIdx x.ks key with | some i => if i < x.vs.length then some i else none | none => none) else none
theorem place_spec (x : V) (key : ByteArray) (hx : Fits x) (H : Hp) :
    ACall Tryz.prog 61 [.agg (encV x), .v (.string key)] H (IsR H (.v (.int .i64 (oi (pl x key))))) := by
  cases hx with
  | mk k n t ks vs h1 h2 h =>
  refine UCall (n := 19) (H0 := H) (objs := []) Tryz.func61 (by kernel_rfl) rfl (by rw [Tryz.ntmps61]; rfl) .nil <| ?_
  refine Q.rg <| US.box rfl (by decide) rfl rfl rfl rfl (by rfl) fun p2 => ?_
  refine Q.as rfl <| Q.nt <| UW.seq <| Q.rg <| ?_
  by_cases hk : k = 5
  · refine US.fieldAddr rfl (by decide) rfl rfl rfl f26_0 <| Q.lc 0 ty3 rfl rfl rfl <| US.bin_int rfl (by decide) rfl rfl rfl rfl (r := .bool false) (by (simp [iop, sop, hk]; done)) <| ?_
    refine Q.nt <| UW.cond rfl (fun h => absurd h (by simp)) fun _ => ?_
    refine UW.skip <| UQ.then <| UW.seq <| Q.rg <| US.fieldAddr rfl (by decide) rfl rfl rfl f26_3 <| Q.lc 0 ty23 rfl rfl rfl <| Q.mv rfl <| US.call_pure rfl (by decide) rfl rfl rfl rfl (fun _ => index_spec ks key h1 _) <| Q.as rfl <| Q.nt <| Q.rg <| Q.mv rfl <| US.fieldAddr rfl (by decide) rfl rfl rfl f26_4 <| Q.lc 0 ty24 rfl rfl rfl <| US.len_sl rfl (by decide) rfl rfl sl24 rfl <| Q.bi rfl rfl rfl <| Q.nt <| ?_
    refine UW.cond rfl (fun h => ?_) (fun h => ?_)
    · refine Q.rg <| Q.mv rfl <| Q.as rfl <| Q.nt <| UW.ret <| UQ.passR <| ?_
      refine retR [] (fun _ => res_tmp rfl rfl) (by simp) fun hd => ⟨?_, rfl⟩
      have h := of_decide_eq_true h
      rw [encVs_len] at h
      simp only [pl, V.k, V.ks, V.vs, hk, if_true]
      cases hi : keyIdx ks key with
      | none => rfl
      | some i =>
        rw [hi] at h
        have hlt : i < vs.length := by simp only [oi] at h; omega
        simp [oi, hlt]
    · refine UW.skip <| UQ.then <| Q.rg <| Q.as rfl <| Q.nt <| UW.ret <| ?_
      refine retR [] (fun _ => res_tmp rfl rfl) (by simp) fun hd => ⟨?_, rfl⟩
      have h := of_decide_eq_false h
      rw [encVs_len] at h
      simp only [pl, V.k, V.ks, V.vs, hk, if_true]
      cases hi : keyIdx ks key with
      | none => rw [hi] at h; simp only [oi] at h; omega
      | some i =>
        rw [hi] at h
        have hlt : ¬ i < vs.length := by simp only [oi] at h; omega
        simp [oi, hlt]
  · refine US.fieldAddr rfl (by decide) rfl rfl rfl f26_0 <| Q.lc 0 ty3 rfl rfl rfl <| US.bin_int rfl (by decide) rfl rfl rfl rfl (r := .bool true) (by (simp [iop, sop, hk]; done)) <| ?_
    refine Q.nt <| ?_
    refine UW.cond rfl (fun _ => ?_) (fun h => absurd h (by simp))
    refine Q.rg <| Q.as rfl <| Q.nt <| UW.ret <| UQ.passR <| ?_
    refine retR [] (fun _ => res_tmp rfl rfl) (by simp) fun hd => ⟨?_, rfl⟩
    simp only [pl, V.k, hk, if_false]; rfl
theorem pl_lt {x : V} {key : ByteArray} {i : Nat} (h : pl x key = some i) : i < x.vs.length ∧ i < x.ks.length ∧ x.k = 5 := by
  unfold pl at h
  split at h
  · rename_i hk
    cases hi : keyIdx x.ks key with
    | none => rw [hi] at h; simp at h
    | some j =>
      rw [hi] at h
      simp only at h
      split at h
      · cases h; exact ⟨by assumption, keyIdx_lt hi, hk⟩
      · cases h
  · cases h
theorem Fits.vs {x : V} (h : Fits x) : ∀ y ∈ x.vs, Fits y := by cases h with | mk k n t ks vs h1 h2 h => exact h
theorem Fits.ksl {x : V} (h : Fits x) : x.ks.length ≤ 1000000 := by cases h with | mk k n t ks vs h1 h2 h => exact h1
theorem Fits.vsl {x : V} (h : Fits x) : x.vs.length ≤ 1000000 := by cases h with | mk k n t ks vs h1 h2 h => exact h2
/-- An object with as many keys as values. -/
def cutV (x : V) : V := .mk x.k x.n x.t (x.ks.take (min x.ks.length x.vs.length)) (x.vs.take (min x.ks.length x.vs.length))
theorem Fits.cut {x : V} (h : Fits x) : Fits (cutV x) := .mk _ _ _ _ _ (by rw [List.length_take]; have := h.ksl; omega) (by rw [List.length_take]; have := h.vsl; omega) (fun y hy => h.vs y (List.mem_of_mem_take hy))
theorem encVs_take (l : List V) (k : Nat) : encVs (l.take k) = (encVs l).take k := by rw [encVs_eq, encVs_eq, List.map_take]
theorem cut_spec (x : V) (hx : Fits x) (H : Hp) :
    ACall Tryz.prog 62 [.agg (encV x)] H (CopyR H (cutV x)) := by
  have hf := hx
  cases hx with
  | mk k n t ks vs h1 h2 h =>
  have hkl : (ks.map encS).length = ks.length := List.length_map ..
  have hvl := encVs_len vs
  refine UCall (n := 23) (H0 := H) (objs := []) Tryz.func62 (by kernel_rfl) rfl (by rw [Tryz.ntmps62]; rfl) .nil <| ?_
  refine Q.rg <| US.box rfl (by decide) rfl rfl rfl rfl (by rfl) fun p1 => ?_
  refine US.allocN rfl (by decide) rfl rfl z26 rfl rfl rfl rfl fun p2 => Q.nt <| Q.rg <| US.fieldAddr rfl (by decide) rfl rfl rfl f26_3 <| Q.lc 1 ty23 rfl rfl rfl <| US.len_sl rfl (by decide) rfl rfl sl23 rfl <| US.fieldAddr rfl (by decide) rfl rfl rfl f26_4 <| Q.lc 1 ty24 rfl rfl rfl <| US.len_sl rfl (by decide) rfl rfl sl24 rfl <| ?_
  refine US.min2' rfl (by decide) rfl rfl rfl rfl (r := ((min ks.length vs.length : Nat) : Int)) (by rw [hkl, hvl]; split <;> omega) ?_
  refine Q.as rfl <| Q.nt <| UW.seq <| ?_
  refine' UW.draw' (by kernel_rfl) [0, 1, 0, 7, 0, 16, 0, 112, 63, 319, 1023, 2047] [some 11, some 12, some 13, some 14, some 15, some 16, some 17, some 18, some 19, none, none, none] [some (11, _), some (12, _), some (13, _), some (14, _), some (15, _), some (16, _), some (17, _), some (18, _), some (19, _), none, none, none] [9, 10, 11] [1, 5] rfl (by decide) (by decide) (QAll.free (by decide) rfl rfl ?q0 (QAll.held (by decide) rfl rfl ?q1 (QAll.free (by decide) rfl rfl ?q2 (QAll.free (by decide) rfl rfl ?q3 (QAll.free (by decide) rfl rfl ?q4 (QAll.held (by decide) rfl rfl ?q5 (QAll.free (by decide) rfl rfl ?q6 (QAll.free (by decide) rfl rfl ?q7 (QAll.free (by decide) rfl rfl ?q8 (QAll.skip (QAll.skip (QAll.skip QAll.nil)))))))))))) ?k
  case q0 => exact QF.fieldAddr rfl rfl rfl f26_3
  case q1 => exact QS.ld_cell rfl rfl ty23 rfl (k := 1) rfl rfl
  case q2 => exact QF.move rfl rfl rfl
  case q3 => exact QF.slice_sl rfl rfl sl23 rfl (by exact strs_sz _) (.hi rfl) (by omega) (by omega) rfl
  case q4 => exact QF.fieldAddr rfl rfl rfl f26_4
  case q5 => exact QS.ld_cell rfl rfl ty24 rfl (k := 1) rfl rfl
  case q6 => exact QF.move rfl rfl rfl
  case q7 => exact QF.slice_sl rfl rfl sl24 rfl (by exact encVs_sz _) (.hi rfl) (by omega) (by omega) rfl
  case q8 => exact QF.fieldAddr rfl rfl rfl f26_3
  refine CH.cons0 rfl rfl <| DS.st_box rfl rfl ty23 rfl (k := 1) rfl rfl rfl (by rfl) (by rfl) rfl rfl fun _ => ?_
  refine CH.cons rfl rfl (by decide) <| DS.qs (by exact QS.fieldAddr rfl rfl rfl f26_4) <| ?_
  refine CH.cons0 rfl rfl <| DS.st_box rfl rfl ty24 rfl (k := 1) rfl rfl rfl (by rfl) (by rfl) rfl rfl fun _ => ?_
  refine CH.nil <| ?_
  simp only [app, finL]
  have e1 : List.drop 0 (List.take (min ks.length vs.length) (encVs vs)) = encVs (vs.take (min ks.length vs.length)) := by rw [List.drop_zero, encVs_take]
  have e2 : List.drop 0 (List.take (min ks.length vs.length) (ks.map encS)) = (ks.take (min ks.length vs.length)).map encS := by rw [List.drop_zero, List.map_take]
  rw [e1, e2]
  refine UQ.then <| Q.rg <| US.ld_whole rfl (by decide) rfl rfl ty26 rfl (k := 1) rfl (by rfl) <| ?_
  refine US.call_new rfl (by decide) rfl rfl rfl rfl (fun _ => copy_spec (cutV (.mk k n t ks vs)) hf.cut _) ?_; rintro _ _ ⟨i, j, rfl, rfl⟩
  refine US.st_whole rfl rfl rfl ty26 rfl (k := 2) rfl (by rfl) rfl rfl (by rfl) (by rfl) rfl <| ?_
  refine Q.nt <| UW.ret <| ?_
  simp only [List.set_cons_succ, List.set_cons_zero, List.cons_append, List.nil_append]
  refine retR [_, _] (fun hd => res_cell (k := 2) hd rfl rfl rfl st26 sz26) (.cons_cons _ (.cons_cons _ (List.nil_sublist _))) fun hd => ?_
  exact ⟨_, hd, rfl, i, j, rfl, rfl⟩
end Go.Proofs.YtgmfgmbgmjbdhaaGreatDoor
end
