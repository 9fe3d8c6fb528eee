/- Bytes as signs of 64. · Maps from texts. · Samples: values out of choices. -/
import Derived.Test.YtgmfgmbgmjbdhaaGreatDoorKx31
import Derived.Test.YtgmfgmbgmjbdhaaGreatDoorKx19
import Derived.MapKept
import Derived.Carry
import Derived.Test.YtgmfgmbgmjbdhaaGreatDoorKx23
section
namespace Go.Proofs.YtgmfgmbgmjbdhaaGreatDoor
open Go Go.RowKit Go.Eng
set_option linter.unusedSimpArgs false
set_option linter.unusedVariables false
set_option maxRecDepth 100000
set_option maxHeartbeats 4000000
def signsB : ByteArray := ⟨#[65, 66, 67, 68, 69, 70, 71, 72, 73, 74, 75, 76, 77, 78, 79, 80, 81, 82, 83, 84, 85, 86, 87, 88, 89, 90, 97, 98, 99, 100, 101, 102, 103, 104, 105, 106, 107, 108, 109, 110, 111, 112, 113, 114, 115, 116, 117, 118, 119, 120, 121, 122, 48, 49, 50, 51, 52, 53, 54, 55, 56, 57, 45, 95]⟩
def cut3 (all : List Int) (x : Nat) : List Int := (all.drop x).take 3
def acc3 (c : List Int) : Nat → Int
  | 0 => 0
  | i + 1 => acc3 c i * 256 + c.getD i 0
def dig (n : Int) (i : Nat) : Int := n / 2 ^ (18 - 6 * i) % 64
def sgn (n : Int) (i : Nat) : Int := bAt signsB (dig n i)
def partT (n : Int) : Nat → ByteArray
  | 0 => ⟨#[]⟩
  | m + 1 => partT n m ++ byteB (sgn n m)
def fullT (c : List Int) : ByteArray := partT (acc3 c 3) (c.length + 1)
def textF (all : List Int) (xs : List Nat) : ByteArray := xs.foldl (fun s x => s ++ fullT (cut3 all x)) ⟨#[]⟩
def textB (all : List Int) : ByteArray := textF all (chunksUpto 3 ((all.length + 2) / 3))
theorem textF_snoc (all : List Int) (xs : List Nat) (x : Nat) : textF all (xs ++ [x]) = textF all xs ++ fullT (cut3 all x) := by unfold textF; rw [List.foldl_append]; rfl
theorem dig_bd (n : Int) (i : Nat) : 0 ≤ dig n i ∧ dig n i < 64 := by unfold dig; omega
theorem partT_size (n : Int) : ∀ m, (partT n m).size = m
  | 0 => rfl
  | m + 1 => by rw [partT, app_size, partT_size n m, byteB_size]
theorem cut3_len (all : List Int) (x : Nat) : (cut3 all x).length = min 3 (all.length - x) := by unfold cut3; rw [List.length_take, List.length_drop]
theorem cut3_ok {all : List Int} (h : ByteL all) (x : Nat) : ByteL (cut3 all x) := fun c hc => h c (List.mem_of_mem_drop (List.mem_of_mem_take hc))
theorem fullT_size (c : List Int) : (fullT c).size = c.length + 1 := partT_size _ _
theorem textF_sizeG (all : List Int) : ∀ (xs : List Nat) (s : ByteArray), s.size + xs.length ≤ (xs.foldl (fun s x => s ++ fullT (cut3 all x)) s).size ∧ (xs.foldl (fun s x => s ++ fullT (cut3 all x)) s).size ≤ s.size + 4 * xs.length
  | [], s => by simp
  | x :: r, s => by
    have h := textF_sizeG all r (s ++ fullT (cut3 all x))
    rw [app_size, fullT_size, cut3_len] at h
    rw [List.foldl_cons, List.length_cons]
    omega
theorem textF_size (all : List Int) (xs : List Nat) : xs.length ≤ (textF all xs).size ∧ (textF all xs).size ≤ 4 * xs.length := by
  have h := textF_sizeG all xs ⟨#[]⟩
  have e : (⟨#[]⟩ : ByteArray).size = 0 := rfl
  rw [e] at h
  unfold textF
  omega
theorem acc3_bd {c : List Int} (h : ByteL c) : ∀ i, i ≤ 3 → 0 ≤ acc3 c i ∧ acc3 c i < 2 ^ (8 * i)
  | 0, _ => ⟨Int.le_refl 0, by show (0 : Int) < 2 ^ 0; decide⟩
  | i + 1, hi => by
    obtain ⟨h1, h2⟩ := acc3_bd h i (by omega)
    have h3 := h.at i
    rw [acc3, show 8 * (i + 1) = 8 * i + 8 from by omega, Int.pow_add]
    have : (2 : Int) ^ 8 = 256 := by decide
    rw [this]
    omega
theorem acc3_lt {c : List Int} (h : ByteL c) {i : Nat} (hi : i ≤ 3) : 0 ≤ acc3 c i ∧ acc3 c i < 16777216 := by
  obtain ⟨h1, h2⟩ := acc3_bd h i hi
  refine ⟨h1, Int.lt_of_lt_of_le h2 ?_⟩
  match i, hi with
  | 0, _ => decide
  | 1, _ => decide
  | 2, _ => decide
  | 3, _ => decide
theorem getD_out (c : List Int) (i : Nat) (h : c.length ≤ i) : c.getD i 0 = 0 := by rw [List.getD_eq_getElem?_getD, List.getElem?_eq_none h]; rfl
theorem or64 (a c : Int) (ha : 0 ≤ a) (ha2 : a < 16777216) (hc : 0 ≤ c) (hck : c < 256) : IntKind.i64.wrap (BitVec.ofInt IntKind.i64.bits (a * 256) ||| BitVec.ofInt IntKind.i64.bits c).toNat = a * 256 + c := by
  obtain ⟨a, rfl⟩ := Int.eq_ofNat_of_zero_le ha
  obtain ⟨c, rfl⟩ := Int.eq_ofNat_of_zero_le hc
  have h1 : ((a : Int) * 256) = ((a * 2 ^ 8 : Nat) : Int) := by simp
  have h2 : c < 2 ^ 8 := by omega
  rw [h1]
  rw [show IntKind.i64.bits = 64 from rfl, BitVec.toNat_or, BitVec.toNat_ofInt, BitVec.toNat_ofInt]
  have e1 : (((a * 2 ^ 8 : Nat) : Int) % ((2 ^ 64 : Nat) : Int)).toNat = a * 2 ^ 8 := by omega
  have e2 : (((c : Nat) : Int) % ((2 ^ 64 : Nat) : Int)).toNat = c := by omega
  rw [e1, e2, ← Nat.shiftLeft_eq, ← Nat.shiftLeft_add_eq_or_of_lt h2, Nat.shiftLeft_eq, IntWalk.i64_in _ (by omega)]
  omega
theorem and63 (a : Int) (ha : 0 ≤ a) (ha2 : a < 16777216) : IntKind.i64.wrap (BitVec.ofInt IntKind.i64.bits a &&& BitVec.ofInt IntKind.i64.bits 63).toNat = a % 64 := by
  obtain ⟨a, rfl⟩ := Int.eq_ofNat_of_zero_le ha
  rw [show IntKind.i64.bits = 64 from rfl, BitVec.toNat_and, BitVec.toNat_ofInt, BitVec.toNat_ofInt]
  have e1 : (((a : Nat) : Int) % ((2 ^ 64 : Nat) : Int)).toNat = a := by omega
  have e2 : ((63 : Int) % ((2 ^ 64 : Nat) : Int)).toNat = 2 ^ 6 - 1 := by decide
  rw [e1, e2, Nat.and_two_pow_sub_one_eq_mod, IntWalk.i64_in _ (by omega)]
  omega
theorem shl3 (a : Int) (ha : 0 ≤ a) (ha2 : a < 16777216) : IntKind.i64.wrap (a * 2 ^ min (8 : Int).toNat IntKind.i64.bits) = a * 256 := by
  show IntKind.i64.wrap (a * 2 ^ 8) = _
  rw [IntWalk.i64_in _ (by omega)]; omega
theorem shr3 (a : Int) (ha : 0 ≤ a) (ha2 : a < 16777216) (i : Nat) (hi : i ≤ 3) : a.fdiv (2 ^ min ((18 : Int) - ((6 * i : Nat) : Int)).toNat IntKind.i64.bits) = a / 2 ^ (18 - 6 * i) ∧ 0 ≤ a / 2 ^ (18 - 6 * i) ∧ a / 2 ^ (18 - 6 * i) < 16777216 := by
  have e : min ((18 : Int) - ((6 * i : Nat) : Int)).toNat IntKind.i64.bits = 18 - 6 * i := by
    have : IntKind.i64.bits = 64 := rfl
    omega
  have hp : (0 : Int) < 2 ^ (18 - 6 * i) := Int.pow_pos (by decide)
  rw [e, Int.fdiv_eq_ediv_of_nonneg _ (by omega)]
  refine ⟨rfl, Int.ediv_nonneg ha (by omega), ?_⟩
  exact Int.lt_of_le_of_lt (Int.ediv_le_self _ ha) ha2
theorem app_nil0 (s : ByteArray) : s ++ (⟨#[]⟩ : ByteArray) = s := ByteArray.append_empty
theorem chunks3_len (k : Nat) : (chunksUpto 3 k).length = k := by unfold chunksUpto; simp
theorem text_done {n k : Nat} (h1 : n ≤ k * 3) (h2 : k = 0 ∨ (k - 1) * 3 < n) : k = (n + 2) / 3 := by omega
theorem sealT_spec (all : List Int) (hl0 : 0 < all.length) (hl : all.length ≤ 10000000000) (hab : ByteL all) (H : Hp) (hG : NoIt H) : ACall Tryz.prog 42 [.sl (encY all)] H (IsR H (.v (.string (textB all)))) := by
  refine UCall (n := 44) (H0 := H) (objs := []) Tryz.func42 (by kernel_rfl) rfl (by rw [Tryz.ntmps42]; rfl) .nil <| ?_
  refine Q.rg <| Q.as rfl <| Q.nt <| Q.rg <| S.dd <| D.alp z82 rfl rfl fun p => ?_
  (refine US.nilCell (sz := 1) 0 1 5 (by decide) rfl rfl (fun r0 => ?_); simp only [List.set_cons_zero, List.set_cons_succ])
  refine Q.nt <| S.sq <| Q.rg <| Q.mv rfl <| S.qu (Z.call rfl rfl (fun H => chunk_spec _ 3 (by decide) H)) <| Q.nt <| UW.block <| ?_
  have hfe : (fun x : Nat => AV.sl (((encY all).drop x).take 3)) = fun x => AV.sl (encY (cut3 all x)) := by
    funext x; unfold cut3; rw [encY_drop, encY_take]
  refine UW.rangeFunc (α := Nat) (β := Nat × AV × ByteArray) (gf := 118) (caps := [.rp [.sl (encY all)], .rp [.v (.int .i64 3)]]) (fun xs => ∃ k, xs = chunksUpto 3 k ∧ (encY all).length ≤ k * 3 ∧ (k = 0 ∨ (k - 1) * 3 < (encY all).length)) (fun xs => ∃ k, xs = chunksUpto 3 k) (encY all).length (fun x => .sl (encY (cut3 all x))) 0 rfl ⟨_, rfl, by kernel_rfl, by kernel_rfl⟩ (by decide) (by decide) (fun ρ w lb h1 h2 => hfe ▸ chunk_iter (encY all) (encY_sz all) (by rw [encY_len]; omega) 3 (by decide) (by decide) h1 h2) (fun b => bld p b.1 b.2.1 b.2.2) (fun b => bld p b.1 b.2.1 b.2.2) (fun xs b => Adr p b.2.1 ∧ b.2.2 = textF all xs) (fun _ _ => False) (r0, .v (.pointer none), ⟨#[]⟩) ⟨.inl rfl, rfl⟩ rfl hG (fun _ => rfl) (fun _ => rfl) ?_ ?_ (fun _ _ _ h => h.elim)
  · intro lp pre x b hJ hN
    letI : Rd := ⟨some lp⟩
    obtain ⟨r, a, s⟩ := b
    obtain ⟨hA, hs⟩ := hJ
    dsimp only at hA hs ⊢
    have hsz := textF_size all pre
    rw [encY_len] at hN
    rw [← hs] at hsz
    have hcl := cut3_len all x
    have hce := encY_len (cut3 all x)
    have hco := cut3_ok hab x
    have hsn := textF_snoc all pre x
    rw [← hs] at hsn
    generalize cut3 all x = c at *
    refine UW.block <| Q.rg <| Q.as rfl <| Q.nt <| S.sq <| Q.rg <| Q.mv rfl <| Q.nt <| UW.block <| S.loop (fun i : Nat => [(11, .v (.int .i64 (i : Int))), (5, .v (.int .i64 (acc3 c i))), (4, .sl (encY c)), (3, .ptr p 0)]) (fun _ => bld p r a s) (fun i => i ≤ 3) (fun i => 3 - i) 0 (Nat.zero_le _) ⟨rfl, rfl, rfl, rfl, trivial⟩ (.refl _) <| ?_
    intro i hi
    have hac := acc3_lt hco hi
    by_cases hlt : i < 3
    · have hs3 := shl3 _ hac.1 hac.2
      by_cases hic : i < c.length
      · have hg := encY_get c i hic
        have hat := hco.at i
        refine Q.rg <| Q.bi rfl rfl rfl <| Q.nt <| S.sq <| S.cT rfl (decide_eq_true (by omega)) <| UW.skip <| UQ.then <| S.sq <| UW.block <| Q.rg <| Q.mv rfl <| Q.as rfl <| Q.nt <| Q.rg <| Q.mv rfl <| S.qu (Z.shl (r := acc3 c i * 256) rfl rfl (by decide) hs3) <| Q.as rfl <| Q.nt <| Q.rg <| Q.mv rfl <| Q.mv rfl <| S.qu (Z.lns sl22 rfl) <| Q.bi rfl rfl rfl <| Q.nt <| S.cT rfl (decide_eq_true (by omega)) <| S.rg <| Q.mv rfl <| Q.mv rfl <| Q.mv rfl <| S.qu (Z.ia sl22 rfl rfl (by omega) hg (by rfl)) <| ?_
        refine S.qu (Z.lpc ty5 rfl) <| S.qu (Z.cv Tryz.underlying3 rfl (IntWalk.i64_in _ (by omega)) (by rw [Tryz.underlying5]; rfl)) <| ?_
        refine S.qu (Z.eq (u' := .v (.int .i64 (acc3 c (i + 1)))) (Z.bi rfl rfl rfl) (by rw [or64 _ _ hac.1 (by have := acc3_lt hco (show i + 1 ≤ 3 by omega); rw [acc3] at this; omega) hat.1 hat.2]; rfl)) <| ?_
        refine Q.as rfl <| US.nil <| UQ.blockN <| UQ.then <| S.rg <| S.qu (Z.add (r := ((i + 1 : Nat) : Int)) rfl rfl (IntWalk.i64_in _ (by omega))) <| Q.mv rfl <| US.nil <| ?_
        refine S.back _ ⟨rfl, rfl, rfl, rfl, trivial⟩ (.refl _) (by omega) (by omega)
      · have hac1 : acc3 c (i + 1) = acc3 c i * 256 := by rw [acc3, getD_out c i (by omega), Int.add_zero]
        refine Q.rg <| Q.bi rfl rfl rfl <| Q.nt <| S.sq <| S.cT rfl (decide_eq_true (by omega)) <| UW.skip <| UQ.then <| S.sq <| UW.block <| Q.rg <| Q.mv rfl <| Q.as rfl <| Q.nt <| Q.rg <| Q.mv rfl <| S.qu (Z.eq (u' := .v (.int .i64 (acc3 c (i + 1)))) (Z.shl (r := acc3 c i * 256) rfl rfl (by decide) hs3) (by rw [hac1])) <| ?_
        refine Q.as rfl <| Q.nt <| Q.rg <| Q.mv rfl <| Q.mv rfl <| S.qu (Z.lns sl22 rfl) <| Q.bi rfl rfl rfl <| Q.nt <| S.cF rfl (decide_eq_false (by omega)) <| UW.skip <| UQ.blockN <| UQ.then <| S.rg <| S.qu (Z.add (r := ((i + 1 : Nat) : Int)) rfl rfl (IntWalk.i64_in _ (by omega))) <| Q.mv rfl <| US.nil <| ?_
        refine S.back _ ⟨rfl, rfl, rfl, rfl, trivial⟩ (.refl _) (by omega) (by omega)
    · have hi3 : i = 3 := by omega
      subst hi3
      have hfs : fullT c = partT (acc3 c 3) (c.length + 1) := rfl
      generalize acc3 c 3 = n at *
      refine Q.rg <| Q.bi rfl rfl rfl <| Q.nt <| S.sq <| S.cF rfl (decide_eq_false (by omega)) <| UW.exit <| UQ.pass <| UQ.pass <| UQ.here <| UQ.then <| Q.rg <| Q.mv rfl <| S.qu (Z.lns sl22 rfl) <| S.qu (Z.add rfl rfl (IntWalk.i64_in _ (by omega))) <| Q.mv rfl <| Q.nt <| UW.block <| S.loop (fun m : Nat × Nat × AV => [(31, .v (.int .i64 (m.1 : Int))), (30, .v (.int .i64 ((encY c).length + 1))), (5, .v (.int .i64 n)), (3, .ptr p 0)]) (fun m => bld p m.2.1 m.2.2 (s ++ partT n m.1)) (fun m => m.1 ≤ c.length + 1 ∧ Adr p m.2.2) (fun m => c.length + 1 - m.1) (0, r, a) ⟨Nat.zero_le _, hA⟩ ⟨rfl, rfl, rfl, rfl, trivial⟩ (by show (bld p r a (s ++ ⟨#[]⟩)).Sublist _; rw [app_nil0]; exact .refl _) <| ?_
      rintro ⟨m, r1, a1⟩ ⟨hm, hA1⟩
      dsimp only at hm hA1 ⊢
      by_cases hlt : m < c.length + 1
      · obtain ⟨q1, q2, q3⟩ := shr3 n hac.1 hac.2 m (by omega)
        have hdb := dig_bd n m
        have hbb := bAt_lt signsB (dig n m)
        have hst : (s ++ partT n m) ++ byteB (bAt signsB (dig n m)) = s ++ partT n (m + 1) := by rw [ByteArray.append_assoc]; rfl
        have hps := partT_size n m
        refine Q.rg <| Q.bi rfl rfl rfl <| Q.nt <| S.sq <| S.cT rfl (decide_eq_true (by omega)) <| UW.skip <| UQ.then <| S.sq <| UW.block <| Q.rg <| Q.mv rfl <| Q.as rfl <| Q.nt <| S.rg <| Q.mv rfl <| Q.mv rfl <| S.qu (Z.mul (r := ((6 * m : Nat) : Int)) rfl rfl (IntWalk.i64_in _ (by omega))) <| S.qu (Z.sub rfl rfl (IntWalk.i64_in _ (by omega))) <| S.qu (Z.shr (r := n / 2 ^ (18 - 6 * m)) rfl rfl (by omega) q1) <| S.qu (Z.eq (u' := .v (.int .i64 (dig n m))) (Z.bi rfl rfl rfl) (by rw [and63 _ q2 q3]; rfl)) <| ?_
        refine S.qu (Z.is (p := signsB) Tryz.underlying9 rfl rfl (by omega) (by show _ < (64 : Int); omega)) <| ?_
        refine S.dd <| D.co (.cons 0 rfl (.cons 0 rfl .nil)) rfl rfl (fun G hD => writeByte_to p r1 a1 hA1 (s ++ partT n m) (s ++ partT n (m + 1)) (by rw [app_size]; omega) _ hbb.1 hbb.2 hst G hD) <| ?_
        (rintro _ _ ⟨rfl, r2, rfl⟩; simp only [bld, List.cons_append, List.nil_append])
        refine US.nil <| UQ.blockN <| UQ.then <| S.rg <| S.qu (Z.add (r := ((m + 1 : Nat) : Int)) rfl rfl (IntWalk.i64_in _ (by omega))) <| Q.mv rfl <| US.nil <| ?_
        refine S.back (m + 1, r2, .ptr p 0) ⟨rfl, rfl, rfl, rfl, trivial⟩ (.refl _) ?_ (by omega)
        exact ⟨by show m + 1 ≤ c.length + 1; omega, .inr rfl⟩
      · have hme : m = c.length + 1 := by omega
        subst hme
        rw [← hfs]
        refine Q.rg <| Q.bi rfl rfl rfl <| Q.nt <| S.sq <| S.cF rfl (decide_eq_false (by omega)) <| UW.exit <| UQ.pass <| UQ.pass <| UQ.here <| UQ.blockN <| ?_
        exact S.rdn (r1, a1, s ++ fullT c) ⟨hA1, by rw [hsn]⟩ (.refl _)
  · rintro xs ⟨r, a, s⟩ ⟨k, rfl, h1, h2⟩ ⟨hA, hs⟩
    rw [encY_len] at h1 h2
    have hk := text_done h1 h2
    have hsz := textF_size all (chunksUpto 3 k)
    dsimp only at hA hs ⊢
    rw [chunks3_len] at hsz
    rw [hk] at hs
    rw [hk] at hsz
    have hs2 : s = textB all := hs
    clear hs
    subst hs2
    have hsz : (all.length + 2) / 3 ≤ (textB all).size ∧ (textB all).size ≤ 4 * ((all.length + 2) / 3) := hsz
    refine UQ.blockN <| UQ.then <| Q.rg <| S.dd <| D.co (.cons 0 rfl (.cons 0 rfl .nil)) rfl rfl (fun G hD => bldString_spec p r a (textB all) (by omega) (by omega) G hD) <| ?_
    rintro _ _ ⟨rfl, rfl⟩
    refine Q.as rfl <| Q.nt <| UW.ret <| S.rtR (fun _ => res_tmp rfl rfl) <| ?_
    rfl
theorem cut3_at (all : List Int) (x j : Nat) (hj : j < 3) : (cut3 all x).getD j 0 = all.getD (x + j) 0 := by
  unfold cut3
  rw [List.getD_eq_getElem?_getD, List.getD_eq_getElem?_getD, List.getElem?_take_of_lt hj, List.getElem?_drop]
theorem sgn_ext (n : Int) (m : Nat) : signsB.extract (dig n m).toNat (dig n m + 1).toNat = byteB (sgn n m) := by
  have hdb := dig_bd n m
  rw [show (dig n m + 1).toNat = (dig n m).toNat + 1 from by omega, extract_one _ _ (by show _ < 64; omega), Int.toNat_of_nonneg hdb.1]
  rfl
theorem sealTR_spec (all : List Int) (hl : all.length ≤ 10000000000) (hab : ByteL all) (H : Hp) : ACall Tryz.prog 93 [.sl (encY all)] H (IsR H (.v (.string (textB all)))) := by
  have hel := encY_len all
  refine UCall (n := 58) (H0 := H) (objs := []) Tryz.func93 (by kernel_rfl) rfl (by rw [Tryz.ntmps93]; rfl) .nil <| ?_
  refine Q.rg <| Q.as rfl <| Q.nt <| Q.rg <| Q.as rfl <| Q.nt <| S.sq <| Q.rg <| Q.as rfl <| Q.nt <| UW.block <| S.loop (fun k : Nat => [(4, .v (.int .i64 ((k * 3 : Nat) : Int))), (3, .v (.string (textF all (chunksUpto 3 k)))), (0, .sl (encY all))]) (fun _ => []) (fun k => k ≤ (all.length + 2) / 3) (fun k => (all.length + 2) / 3 - k) 0 (Nat.zero_le _) ⟨rfl, rfl, rfl, trivial⟩ (.refl _) <| ?_
  intro k hk
  have hsz := textF_size all (chunksUpto 3 k)
  rw [chunks3_len] at hsz
  by_cases hlt : k < (all.length + 2) / 3
  · have hcl := cut3_len all (k * 3)
    have hco := cut3_ok hab (k * 3)
    have hat := cut3_at all (k * 3)
    have hsn := textF_snoc all (chunksUpto 3 k) (k * 3)
    rw [← chunksUpto_succ] at hsn
    generalize textF all (chunksUpto 3 k) = s at hsz hsn ⊢
    generalize cut3 all (k * 3) = c at hcl hco hat hsn
    refine S.sq <| Q.rg <| Q.mv rfl <| Q.mv rfl <| S.qu (Z.lns sl22 rfl) <| Q.bi rfl rfl rfl <| Q.nt <| S.cT rfl (decide_eq_true (by omega)) <| UW.skip <| UQ.then <| S.sq <| UW.block <| Q.rg <| Q.as rfl <| Q.nt <| Q.rg <| Q.mv rfl <| S.qu (Z.lns sl22 rfl) <| Q.mv rfl <| S.qu (Z.sub rfl rfl (IntWalk.i64_in _ (by omega))) <| ?_
    refine S.qu (Z.eq (u' := .v (.int .i64 (c.length : Int))) (Z.min rfl rfl) (by rw [hcl]; congr 2; split <;> omega)) ?_
    refine Q.as rfl <| Q.nt <| S.sq <| Q.rg <| Q.as rfl <| Q.nt <| UW.block <| S.loop (fun j : Nat => [(7, .v (.int .i64 (j : Int))), (6, .v (.int .i64 (c.length : Int))), (5, .v (.int .i64 (acc3 c j))), (4, .v (.int .i64 ((k * 3 : Nat) : Int))), (3, .v (.string s)), (0, .sl (encY all))]) (fun _ => []) (fun j => j ≤ 3) (fun j => 3 - j) 0 (Nat.zero_le _) ⟨rfl, rfl, rfl, rfl, rfl, rfl, trivial⟩ (.refl _) <| ?_
    intro j hj
    have hac := acc3_lt hco hj
    by_cases hlt3 : j < 3
    · have hca := hco.at j
      have hacn : acc3 c (j + 1) = acc3 c j * 256 + c.getD j 0 := rfl
      by_cases hjc : j < c.length
      · have hg := encY_get all (k * 3 + j) (by omega)
        rw [← hat j hlt3] at hg
        refine S.sq <| Q.rg <| Q.mv rfl <| Q.bi rfl rfl rfl <| Q.nt <| S.cT rfl (decide_eq_true (by omega)) <| UW.skip <| UQ.then <| S.sq <| UW.block <| Q.rg <| Q.mv rfl <| S.qu (Z.mul (r := acc3 c j * 256) rfl rfl (by rw [IntWalk.i64_in _ (by omega)]; omega)) <| ?_
        refine Q.as rfl <| Q.nt <| Q.rg <| Q.mv rfl <| Q.mv rfl <| Q.bi rfl rfl rfl <| Q.nt <| S.cT rfl (decide_eq_true (by omega)) <| S.rg <| Q.mv rfl <| Q.mv rfl <| Q.mv rfl <| Q.mv rfl <| S.qu (Z.add (r := ((k * 3 + j : Nat) : Int)) rfl rfl (IntWalk.i64_in _ (by omega))) <| S.qu (Z.ia sl22 rfl rfl (by omega) hg (by rfl)) <| ?_
        refine S.qu (Z.lpc ty5 rfl) <| S.qu (Z.cv Tryz.underlying3 rfl (IntWalk.i64_in _ (by omega)) (by rw [Tryz.underlying5]; rfl)) <| ?_
        refine S.qu (Z.add (r := acc3 c (j + 1)) rfl rfl (by rw [hacn]; exact IntWalk.i64_in _ (by omega))) <| ?_
        refine Q.as rfl <| US.nil <| UQ.blockN <| UQ.then <| S.rg <| Q.mv rfl <| S.qu (Z.add (r := ((j + 1 : Nat) : Int)) rfl rfl (IntWalk.i64_in _ (by omega))) <| Q.as rfl <| US.nil <| ?_
        refine S.back _ ⟨rfl, rfl, rfl, rfl, rfl, rfl, trivial⟩ (.refl _) (by omega) (by omega)
      · have hz := getD_out c j (by omega)
        refine S.sq <| Q.rg <| Q.mv rfl <| Q.bi rfl rfl rfl <| Q.nt <| S.cT rfl (decide_eq_true (by omega)) <| UW.skip <| UQ.then <| S.sq <| UW.block <| Q.rg <| Q.mv rfl <| S.qu (Z.mul (r := acc3 c (j + 1)) rfl rfl (by rw [hacn, hz, IntWalk.i64_in _ (by omega)]; omega)) <| ?_
        refine Q.as rfl <| Q.nt <| Q.rg <| Q.mv rfl <| Q.mv rfl <| Q.bi rfl rfl rfl <| Q.nt <| S.cF rfl (decide_eq_false (by omega)) <| UW.skip <| UQ.blockN <| UQ.then <| S.rg <| Q.mv rfl <| S.qu (Z.add (r := ((j + 1 : Nat) : Int)) rfl rfl (IntWalk.i64_in _ (by omega))) <| Q.as rfl <| US.nil <| ?_
        refine S.back _ ⟨rfl, rfl, rfl, rfl, rfl, rfl, trivial⟩ (.refl _) (by omega) (by omega)
    · have hi3 : j = 3 := by omega
      subst hi3
      have hfs : fullT c = partT (acc3 c 3) (c.length + 1) := rfl
      generalize acc3 c 3 = n at *
      refine S.sq <| Q.rg <| Q.mv rfl <| Q.bi rfl rfl rfl <| Q.nt <| S.cF rfl (decide_eq_false (by omega)) <| UW.exit <| UQ.pass <| UQ.pass <| UQ.here <| UQ.then <| Q.rg <| Q.as rfl <| Q.nt <| UW.block <| S.loop (fun m : Nat => [(8, .v (.int .i64 (m : Int))), (6, .v (.int .i64 (c.length : Int))), (5, .v (.int .i64 n)), (4, .v (.int .i64 ((k * 3 : Nat) : Int))), (3, .v (.string (s ++ partT n m))), (0, .sl (encY all))]) (fun _ => []) (fun m => m ≤ c.length + 1) (fun m => c.length + 1 - m) 0 (Nat.zero_le _) ⟨rfl, rfl, rfl, rfl, congrArg (fun z => some (AV.v (Value.string z))) (app_nil0 s).symm, rfl, trivial⟩ (.refl _) <| ?_
      intro m hm
      by_cases hltm : m < c.length + 1
      · obtain ⟨q1, q2, q3⟩ := shr3 n hac.1 hac.2 m (by omega)
        have hdb := dig_bd n m
        have hst : (s ++ partT n m) ++ byteB (sgn n m) = s ++ partT n (m + 1) := by rw [ByteArray.append_assoc]; rfl
        have hps := partT_size n m
        refine S.sq <| Q.rg <| Q.mv rfl <| Q.mv rfl <| Q.bi rfl rfl rfl <| Q.nt <| S.cT rfl (decide_eq_true (by omega)) <| UW.skip <| UQ.then <| S.sq <| UW.block <| Q.rg <| Q.mv rfl <| Q.mv rfl <| S.qu (Z.mul (r := ((6 * m : Nat) : Int)) rfl rfl (IntWalk.i64_in _ (by omega))) <| S.qu (Z.sub rfl rfl (IntWalk.i64_in _ (by omega))) <| S.qu (Z.cv (r := (18 : Int) - ((6 * m : Nat) : Int)) Tryz.underlying86 rfl (IntWalk.u64_in _ (by omega)) (by rw [Tryz.underlying3]; rfl)) <| ?_
        refine S.qu (Z.shr (r := n / 2 ^ (18 - 6 * m)) rfl rfl (by omega) q1) <| S.qu (Z.eq (u' := .v (.int .i64 (dig n m))) (Z.bi rfl rfl rfl) (by rw [Int.tmod_eq_emod_of_nonneg q2]; rfl)) <| ?_
        refine Q.as rfl <| Q.nt <| S.rg <| Q.mv rfl <| Q.mv rfl <| Q.mv rfl <| S.qu (Z.add rfl rfl (IntWalk.i64_in _ (by omega))) <| S.qu (Z.eq (u' := .v (.string (byteB (sgn n m)))) (Z.slt (p := signsB) Tryz.underlying9 rfl (.bothI (by omega) (by omega) rfl rfl) (by omega) (by show _ ≤ 64; omega)) (by rw [sgn_ext])) <| ?_
        refine S.qu (Z.eq (u' := .v (.string (s ++ partT n (m + 1)))) (Z.cat rfl rfl (by rw [app_size, byteB_size]; omega)) (by rw [hst])) <| ?_
        refine Q.as rfl <| US.nil <| UQ.blockN <| UQ.then <| S.rg <| Q.mv rfl <| S.qu (Z.add (r := ((m + 1 : Nat) : Int)) rfl rfl (IntWalk.i64_in _ (by omega))) <| Q.as rfl <| US.nil <| ?_
        refine S.back (m + 1) ⟨rfl, rfl, rfl, rfl, rfl, rfl, trivial⟩ (.refl _) (by omega) (by omega)
      · have hme : m = c.length + 1 := by omega
        subst hme
        rw [← hfs, ← hsn]
        refine S.sq <| Q.rg <| Q.mv rfl <| Q.mv rfl <| Q.bi rfl rfl rfl <| Q.nt <| S.cF rfl (decide_eq_false (by omega)) <| UW.exit <| UQ.pass <| UQ.pass <| UQ.here <| UQ.blockN <| UQ.then <| S.rg <| Q.mv rfl <| S.qu (Z.add (r := (((k + 1) * 3 : Nat) : Int)) rfl rfl (by rw [IntWalk.i64_in _ (by omega)]; omega)) <| ?_
        refine Q.as rfl <| US.nil <| ?_
        refine S.back (k + 1) ⟨rfl, rfl, rfl, trivial⟩ (.refl _) (by omega) (by omega)
  · have hkq : k = (all.length + 2) / 3 := by omega
    subst hkq
    refine S.sq <| Q.rg <| Q.mv rfl <| Q.mv rfl <| S.qu (Z.lns sl22 rfl) <| Q.bi rfl rfl rfl <| Q.nt <| S.cF rfl (decide_eq_false (by omega)) <| UW.exit <| UQ.pass <| UQ.pass <| UQ.here <| UQ.then <| Q.rg <| Q.mv rfl <| Q.as rfl <| Q.nt <| UW.ret <| S.rtR (fun _ => res_tmp rfl rfl) <| ?_
    rfl
end Go.Proofs.YtgmfgmbgmjbdhaaGreatDoor
end
section
namespace Go.Eng
open Go Go.RowKit Go.MapKept
set_option linter.unusedVariables false
set_option linter.unusedSimpArgs false
set_option linter.unusedSectionVars false
variable [Rd]
/-- A map from texts: its elements' type. -/
def mapT (P : Program) (t : TypeId) : Option Nat :=
  match P.underlying t with
  | some (.map k e) => match P.underlying k with
    | some .string => some e
    | _ => none
  | _ => none
theorem mapT_some {P : Program} {t e : Nat} (h : mapT P t = some e) : ∃ k, P.underlying t = some (.map k e) ∧ P.underlying k = some .string := by
  unfold mapT at h
  split at h
  · rename_i k e' hu
    split at h
    · rename_i hk; cases h; exact ⟨k, hu, hk⟩
    · cases h
  · cases h
def lookE : List (ByteArray × AV) → ByteArray → Option AV
  | [], _ => none
  | (k, u) :: r, s => if s = k then some u else lookE r s
theorem findNow_es (s : ByteArray) : ∀ (es : List (ByteArray × AV)) (l : List MapEntry) (i : Nat), l.map (·.key) = es.map (fun e => Value.string e.1) →
    (lookE es s = none → Instr.findNow .string (.string s) l i = some none) ∧ (∀ u, lookE es s = some u → ∃ (j : Nat) (v : Value), Instr.findNow .string (.string s) l i = some (some (i + j, v)) ∧ (l.map (·.val))[j]? = some v ∧ (es.map (·.2))[j]? = some u)
  | [], [], i, _ => ⟨fun _ => rfl, fun u h => by cases h⟩
  | [], _ :: _, i, h => by cases h
  | _ :: _, [], i, h => by cases h
  | (k, u0) :: r, e :: l, i, h => by
    simp only [List.map_cons, List.cons.injEq] at h
    obtain ⟨h1, h2⟩ := h
    obtain ⟨a, b⟩ := findNow_es s r l (i + 1) h2
    by_cases hs : s = k
    · subst hs
      refine ⟨fun hh => by simp [lookE] at hh, fun u hh => ⟨0, e.val, ?_, rfl, ?_⟩⟩
      · have hss : (s == s) = true := (bytes_beq s s).2 rfl
        simp only [Instr.findNow, h1, Instr.sameNow, hss, Nat.add_zero]
      · simp [lookE] at hh
        simp [hh]
    · have hne : (s == k) = false := by
        cases hb : (s == k) with
        | false => rfl
        | true => exact absurd ((bytes_beq s k).1 hb) hs
      constructor
      · intro hh
        simp only [lookE, if_neg hs] at hh
        simp [Instr.findNow, h1, Instr.sameNow, hne, a hh]
      · intro u hh
        simp only [lookE, if_neg hs] at hh
        obtain ⟨j, v, h3, h4, h5⟩ := b u hh
        refine ⟨j + 1, v, ?_, by simpa using h4, by simpa using h5⟩
        simp [Instr.findNow, h1, Instr.sameNow, hne, h3]
        omega
section
variable {P : Program} {n : Nat} {ops : Array Oper} {T : Sl} {H H0 : Hp} {o : Oper} {K : AV → Hp → Prop} {l : List (Nat × AV)} {objs : List (Nat × Ob)} {x y z : Operand} {dst : Option Nat} {ty t : TypeId} {ps : String} {af : Array Edge} {u : AV} {es : List (ByteArray × AV)} {id : Nat} {s : ByteArray}
theorem Does.makeMap (hg : o.guard = none) (ho : o.op = .makeMap t none) (hk : ∀ id, H id = none → K (.mpr id) (set H id (some (.mp [])))) : Does P n ops o T H K := by
  refine Does.newOb hg fun a w ρ h hr => ?_
  have hex : (execOp a.eval o).run P w = .ok (.value (.map (some w.heap.size))) (w.alloc (.map #[] 0)) := by
    unfold execOp
    rw [ho]
    simp only [Option.map_none, Sem.run_bind, run_makeMap, Result.andThen_ok, Sem.run_pure]
  refine ⟨_, _, _, .mp [], hex, below_alloc _ _, ?_, fun ρ' H' e' => ⟨w.heap.size, #[], 0, rfl, heap_alloc_new w _, rfl, rfl, fun j u x h => by simp at h⟩, fun id hid => ⟨.mpr id, fun ok' ρ' h' => .mpr id _ h', hk id hid⟩⟩
  intro k hk; cases hk; rw [size_alloc]; simp
theorem map_at {ρ : Rho} {w : World} {v : Value} (h : HRel ρ H w) (h2 : H id = some (.mp es)) (hx : Rep (okOf ρ H) ρ w (.mpr id) v) :
    ∃ g l clk, v = .map (some g) ∧ ρ id = some (.map (some g)) ∧ w.heap[g]? = some (.map l clk) ∧ l.toList.map (·.key) = es.map (fun e => Value.string e.1) ∧ RepCells (okOf ρ H) ρ w (es.map (·.2)) (l.toList.map (·.val)) := by
  obtain ⟨v0, hv0, g, l, clk, rfl, hg, h3, h4⟩ := h.ob _ _ h2
  cases hx with
  | mpr _ g' hr => rw [hv0] at hr; cases hr; exact ⟨g, l, clk, rfl, hv0, hg, h3, h4⟩
theorem Does.insert {e : Nat} (hg : o.guard = none) (ho : o.op = .insert t x y z) (ht : mapT P t = some e) (hx : ev T x = .mpr id) (h2 : H id = some (.mp es)) (hy : ev T y = .v (.string s)) (hz : ev T z = u) (hc : cellAV u = true) (hn : lookE es s = none)
    (hk : K .any (set H id (some (.mp (es ++ [(s, u)]))))) : Does P n ops o T H K := by
  intro a w ρ h1 hd h3 h4 N Q hN
  rw [if_pos (by simp [Region.wanted, hg])]
  have hr := ev_rep h4
  have h5 := hr x
  rw [hx] at h5
  have h6 := rep_v (by have := hr y; rw [hy] at this; exact this)
  have h7 := hr z
  rw [hz] at h7
  obtain ⟨kt, hu, hkt⟩ := mapT_some ht
  obtain ⟨g, l, clk, hxx, hρ, hg0, hkeys, hvals⟩ := map_at h3 h2 h5
  have hkey : IsKey .string (.string s) := trivial
  have hf := (findNow_es s es l.toList 0 hkeys).1 hn
  have hex : (execOp a.eval o).run P w = .ok .skip { w with heap := w.heap.setIfInBounds g (.map (l.push ⟨.string s, a.eval z, clk⟩) (clk + 1)) } := by
    unfold execOp
    rw [ho]
    simp [hxx, h6, Instr.mapUpdate, run_underlying hu, Go.MapKept.run_getObj_map hg0, run_checkKey hkt hkey, run_findKey hkt hf, Go.MapKept.run_setObj_map _ hg0, Result.andThen]
  obtain ⟨hs1, hs2⟩ := heap_set (o' := .map (l.push ⟨.string s, a.eval z, clk⟩) (clk + 1)) hg0
  have hw := h3.write (w' := { w with heap := w.heap.setIfInBounds g (.map (l.push ⟨.string s, a.eval z, clk⟩) (clk + 1)) }) (.mp (es ++ [(s, u)])) h2 hρ rfl rfl rfl (by simp) (fun k _ hk => hs2 k (fun e => hk (by rw [e]; rfl))) (fun ρ' H' e' _ => ⟨g, _, _, rfl, hs1, by simp [hkeys], by
    have hv1 := e'.cells hvals
    have hz1 := e'.rep h7
    refine ⟨by simpa using hv1.1, fun j u' x' q1 q2 => ?_⟩
    simp only [List.map_append, List.map_cons, List.map_nil, Array.toList_push] at q1 q2
    by_cases hj : j < (es.map (·.2)).length
    · rw [List.getElem?_append_left hj] at q1
      rw [List.getElem?_append_left (by rw [← hv1.1]; exact hj)] at q2
      exact hv1.2 j u' x' q1 q2
    · rw [List.getElem?_append_right (by omega)] at q1
      rw [List.getElem?_append_right (by rw [← hv1.1]; omega), ← hv1.1] at q2
      generalize j - (es.map (·.2)).length = m at q1 q2
      cases m with
      | zero => simp at q1 q2; subst q1 q2; exact ⟨hz1, cellAV_one hz1 hc⟩
      | succ m => simp at q1⟩)
  unfold Oper.wp
  rw [hex]
  exact hN undef _ ρ .any _ hw.1 hw.2 (.any _) hk
theorem Does.lookup {e : Nat} {zv : Value} (hg : o.guard = none) (ho : o.op = .lookup t x y false) (ht : mapT P t = some e) (hz : (P.info? e).map (·.zero) = some (some zv)) (hx : ev T x = .mpr id) (h2 : H id = some (.mp es)) (hy : ev T y = .v (.string s)) (hu : (lookE es s).getD (.v zv) = u) (hk : K u H) : Does P n ops o T H K := by
  refine Does.val u hg (fun a w ρ hh hr => ?_) hk
  have h5 := hr x
  rw [hx] at h5
  have h6 := rep_v (by have := hr y; rw [hy] at this; exact this)
  obtain ⟨kt, hut, hkt⟩ := mapT_some ht
  obtain ⟨g, l, clk, hxx, hρ, hg0, hkeys, hvals⟩ := map_at hh h2 h5
  have hkey : IsKey .string (.string s) := trivial
  obtain ⟨f1, f2⟩ := findNow_es s es l.toList 0 hkeys
  obtain ⟨ie, hie, hze⟩ := Option.map_eq_some_iff.1 hz
  cases hl : lookE es s with
  | none =>
    refine ⟨zv, ?_, by rw [← hu, hl]; exact .v _⟩
    unfold execOp
    rw [ho]
    simp [hxx, h6, Instr.lookup, run_underlying hut, Go.MapKept.run_getObj_map hg0, run_checkKey hkt hkey, run_findKey hkt (f1 hl), zeroValue, typeInfo, hie, hze, Result.andThen]
  | some u' =>
    obtain ⟨j, v, q1, q2, q3⟩ := f2 u' hl
    refine ⟨v, ?_, by rw [← hu, hl]; exact (hvals.2 j _ _ q3 q2).1⟩
    unfold execOp
    rw [ho]
    simp [hxx, h6, Instr.lookup, run_underlying hut, Go.MapKept.run_getObj_map hg0, run_checkKey hkt hkey, run_findKey hkt q1, Result.andThen]
theorem D.mkm {K : AV → List (Nat × Ob) → Prop} (hk : ∀ id, K (.mpr id) ((id, .mp []) :: objs)) : DS P n ops H0 ⟨dst, .makeMap t none, ty, ps, af, none⟩ l objs K :=
  fun hdist => Does.makeMap rfl rfl fun id hid => ⟨(id, .mp []) :: objs, rfl, .cons hid hdist, hk id⟩
theorem D.ins {e : Nat} {objs' : List (Nat × Ob)} {K : AV → List (Nat × Ob) → Prop} (k : Nat) (ht : mapT P t = some e) (hx : evO l x = some (.mpr id)) (h2 : objs[k]? = some (id, .mp es)) (hy : evO l y = some (.v (.string s))) (hz : evO l z = some u) (hc : cellAV u = true) (hn : lookE es s = none) (hob : objs.set k (id, .mp (es ++ [(s, u)])) = objs') (hk : ∀ u, K u objs') : DS P n ops H0 ⟨dst, .insert t x y z, ty, ps, af, none⟩ l objs K := fun hdist => by
  subst hob
  exact Does.insert rfl rfl ht (ev_of hx) (hdist.at_ h2) (ev_of hy) (ev_of hz) hc hn ⟨_, (hdist.set_ _ h2).1, (hdist.set_ _ h2).2, hk _⟩
theorem Z.lkm {e : Nat} {zv : Value} (k : Nat) (ht : mapT P t = some e) (hz : (P.info? e).map (·.zero) = some (some zv)) (hx : evO l x = some (.mpr id)) (h2 : objs[k]? = some (id, .mp es)) (hy : evO l y = some (.v (.string s))) (hu : (lookE es s).getD (.v zv) = u) : QS P n ops H0 ⟨dst, .lookup t x y false, ty, ps, af, none⟩ l objs u := fun hd => Does.lookup rfl rfl ht hz (ev_of hx) (hd.at_ h2) (ev_of hy) hu ⟨rfl, rfl⟩
end
end Go.Eng
end
section
namespace Go.Proofs.YtgmfgmbgmjbdhaaGreatDoor
open Go Go.RowKit Go.Eng
set_option linter.unusedSimpArgs false
set_option linter.unusedVariables false
set_option maxRecDepth 100000
def keyL : List ByteArray := [⟨#[97]⟩, ⟨#[98]⟩, ⟨#[109, 101, 109, 98, 101, 114, 115, 104, 105, 112]⟩, ⟨#[117, 115, 101, 114, 115]⟩, ⟨#[195, 169]⟩, ⟨#[101, 118, 101, 110, 116, 115]⟩, ⟨#[120]⟩, ⟨#[116, 121, 112, 101]⟩]
theorem keyL_le : ∀ s ∈ keyL, s.size ≤ 4000000 := by decide
def keyI (b1 : Int) (q : Nat) : Nat := ((b1.tdiv 4 + 3 * (q : Int)).tmod 8).toNat
/-- An object out of values. -/
def objF (b1 : Int) (kids : List V) : Nat → V
  | 0 => .mk 5 0 ⟨#[]⟩ [] []
  | q + 1 => withV (objF b1 kids q) (keyL.getD (keyI b1 q) ⟨#[]⟩) (kids.getD q zeroV)
def takeK (b1 : Int) (l : List V) : Nat := min (b1.tmod 4).toNat l.length
def kidsV (b1 : Int) (l : List V) : List V := l.drop (l.length - takeK b1 l)
/-- How many values stay, and the next one. -/
def swV (b0 b1 : Int) (t : ByteArray) (l : List V) : Nat × V :=
  if b0.tmod 12 = 0 then (l.length, .mk 1 (b1.tmod 2) ⟨#[]⟩ [] [])
  else if b0.tmod 12 = 1 ∨ b0.tmod 12 = 2 ∨ b0.tmod 12 = 3 then (l.length, numV (b1 - 100))
  else if b0.tmod 12 = 4 then (l.length, numV (9007199254740991 - b1.tmod 2))
  else if b0.tmod 12 = 5 ∨ b0.tmod 12 = 6 then (l.length, strV (if 0 ≤ chk t then ⟨#[122]⟩ else t))
  else if b0.tmod 12 = 7 then (l.length - takeK b1 l, .mk 4 0 ⟨#[]⟩ [] (kidsV b1 l))
  else if b0.tmod 12 = 8 ∨ b0.tmod 12 = 9 ∨ b0.tmod 12 = 10 then (l.length - takeK b1 l, objF b1 (kidsV b1 l) (kidsV b1 l).length)
  else (l.length, zeroV)
def stepV (c : List Int) (j : Nat) (l : List V) : List V :=
  l.take (swV (c.getD j 0) (c.getD (j + 1) 0) (textOf ((c.take (min c.length (j + 3))).drop j)) l).1 ++ [(swV (c.getD j 0) (c.getD (j + 1) 0) (textOf ((c.take (min c.length (j + 3))).drop j)) l).2]
def valL (c : List Int) : Nat → List V
  | 0 => []
  | n + 1 => stepV c (2 * n) (valL c n)
def valOf (c : List Int) : V := .mk 4 0 ⟨#[]⟩ [] (valL c (min (c.length / 2) 30))
theorem insAt_mem {α : Type} {l : List α} {i : Nat} {a b : α} (h : b ∈ insAt l i a) : b ∈ l ∨ b = a := by
  unfold insAt at h
  rcases List.mem_append.1 h with h | h
  · exact .inl (List.mem_of_mem_take h)
  · rcases List.mem_cons.1 h with h | h
    · exact .inr h
    · exact .inl (List.mem_of_mem_drop h)
theorem withV_keys {x : V} {key : ByteArray} {y : V} {s : ByteArray} (h : s ∈ (withV x key y).ks) : s ∈ (objV x).ks ∨ s = key := by
  unfold withV at h
  split at h
  · rw [vks] at h; exact .inl (List.mem_of_mem_take h)
  · rw [vks] at h
    rcases insAt_mem h with h | h
    · exact .inl (List.mem_of_mem_take h)
    · exact .inr h
theorem withV_vals {x : V} {key : ByteArray} {y v : V} (h : v ∈ (withV x key y).vs) : v ∈ (objV x).vs ∨ v = y := by
  unfold withV at h
  split at h
  · rw [vvs] at h
    rcases List.mem_or_eq_of_mem_set h with h | h
    · exact .inl (List.mem_of_mem_take h)
    · exact .inr h
  · rw [vvs] at h
    rcases insAt_mem h with h | h
    · exact .inl (List.mem_of_mem_take h)
    · exact .inr h
theorem withV_lens (x : V) (key : ByteArray) (y : V) : (withV x key y).ks.length ≤ (objV x).ks.length + 1 ∧ (withV x key y).vs.length ≤ (objV x).vs.length + 1 ∧ (withV x key y).k = 5 := by
  have hk : (objV x).k = 5 := by unfold objV; split <;> first | assumption | rfl
  have hc : (cutV (objV x)).ks.length ≤ (objV x).ks.length ∧ (cutV (objV x)).vs.length ≤ (objV x).vs.length := by simp only [cutV, vks, vvs, List.length_take]; omega
  have h1 := insAtPos_le (cutV (objV x)).ks key
  unfold withV
  split
  · simp only [vks, vvs, vk, List.length_set]; omega
  · simp only [vks, vvs, vk]
    rw [insAt_len _ _ _ h1, insAt_len _ _ _ (by rw [← cut_lens]; exact h1)]; omega
theorem Fits.of {x : V} (h1 : x.ks.length ≤ 1000000) (h2 : x.vs.length ≤ 1000000) (h : ∀ y ∈ x.vs, Fits y) : Fits x := by
  obtain ⟨k, n, t, ks, vs⟩ := x
  exact .mk k n t ks vs h1 h2 h
theorem objF_ok (b1 : Int) (kids : List V) (hk : ∀ x ∈ kids, Fits x) : ∀ q, (objF b1 kids q).k = 5 ∧ (objF b1 kids q).ks.length ≤ q ∧ (objF b1 kids q).vs.length ≤ q ∧ (∀ s ∈ (objF b1 kids q).ks, s.size ≤ 4000000) ∧ (∀ v ∈ (objF b1 kids q).vs, Fits v)
  | 0 => ⟨rfl, Nat.le_refl _, Nat.le_refl _, (by intro s h; cases h), (by intro v h; cases h)⟩
  | q + 1 => by
    obtain ⟨h0, h1, h2, h3, h4⟩ := objF_ok b1 kids hk q
    have e : objV (objF b1 kids q) = objF b1 kids q := by unfold objV; rw [if_pos h0]
    obtain ⟨w1, w2, w3⟩ := withV_lens (objF b1 kids q) (keyL.getD (keyI b1 q) ⟨#[]⟩) (kids.getD q zeroV)
    rw [e] at w1 w2
    refine ⟨w3, by show (withV _ _ _).ks.length ≤ _; omega, by show (withV _ _ _).vs.length ≤ _; omega, fun s hs => ?_, fun v hv => ?_⟩
    · rcases withV_keys hs with h | h
      · rw [e] at h; exact h3 s h
      · subst h
        by_cases hi : keyI b1 q < keyL.length
        · exact keyL_le _ (getD_mem hi)
        · simp only [List.getD, List.getElem?_eq_none (Nat.le_of_not_lt hi)]; decide
    · rcases withV_vals hv with h | h
      · rw [e] at h; exact h4 v h
      · subst h
        by_cases hi : q < kids.length
        · exact hk _ (getD_mem hi)
        · simp only [List.getD, List.getElem?_eq_none (Nat.le_of_not_lt hi)]; exact .mk _ _ _ _ _ (by decide) (by decide) (by simp)
theorem objF_fits (b1 : Int) (kids : List V) (hk : ∀ x ∈ kids, Fits x) (q : Nat) (hq : q ≤ 1000000) : Fits (objF b1 kids q) := by
  obtain ⟨_, h1, h2, _, h4⟩ := objF_ok b1 kids hk q
  exact Fits.of (by omega) (by omega) h4
theorem fits_zero : Fits zeroV := .mk _ _ _ _ _ (by decide) (by decide) (by simp)
theorem fits_leaf (k n : Int) (t : ByteArray) : Fits (.mk k n t [] []) := .mk _ _ _ _ _ (by simp) (by simp) (by simp)
theorem swV_fits (b0 b1 : Int) (t : ByteArray) (l : List V) (hl : l.length ≤ 1000) (h : ∀ x ∈ l, Fits x) : Fits (swV b0 b1 t l).2 ∧ (swV b0 b1 t l).1 ≤ l.length := by
  have hk : ∀ x ∈ kidsV b1 l, Fits x := fun x hx => h x (List.mem_of_mem_drop hx)
  have hkl : (kidsV b1 l).length ≤ l.length := by unfold kidsV; rw [List.length_drop]; omega
  unfold swV
  repeat' split
  · exact ⟨fits_leaf _ _ _, Nat.le_refl _⟩
  · exact ⟨fits_leaf _ _ _, Nat.le_refl _⟩
  · exact ⟨fits_leaf _ _ _, Nat.le_refl _⟩
  · exact ⟨fits_leaf _ _ _, Nat.le_refl _⟩
  · exact ⟨fits_leaf _ _ _, Nat.le_refl _⟩
  · exact ⟨.mk _ _ _ _ _ (by simp) (by omega) hk, Nat.sub_le _ _⟩
  · exact ⟨objF_fits _ _ hk _ (by omega), Nat.sub_le _ _⟩
  · exact ⟨fits_zero, Nat.le_refl _⟩
theorem valL_ok (c : List Int) : ∀ n, n ≤ 100 → (valL c n).length ≤ n ∧ ∀ x ∈ valL c n, Fits x
  | 0, _ => ⟨Nat.le_refl _, (by intro x h; cases h)⟩
  | n + 1, hn => by
    obtain ⟨h1, h2⟩ := valL_ok c n (by omega)
    have h3 := swV_fits (c.getD (2 * n) 0) (c.getD (2 * n + 1) 0) (textOf ((c.take (min c.length (2 * n + 3))).drop (2 * n))) (valL c n) (by omega) h2
    refine ⟨?_, fun x hx => ?_⟩
    · show (stepV c (2 * n) (valL c n)).length ≤ _
      unfold stepV
      rw [List.length_append, List.length_take]; simp only [List.length_singleton]; omega
    · rcases List.mem_append.1 hx with h | h
      · exact h2 x (List.mem_of_mem_take h)
      · rw [List.mem_singleton.1 h]; exact h3.1
end Go.Proofs.YtgmfgmbgmjbdhaaGreatDoor
end
