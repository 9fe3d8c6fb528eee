/- Bytes as signs of 64. · Maps from texts. · Samples: values out of choices. · Objects with sorted keys: the plain laws. · Which keys of a content stay: the program's and the document's. -/
import Derived.Test.YtgmfgmbgmjbdhaaGreatDoorKn32
import Derived.Test.YtgmfgmbgmjbdhaaGreatDoorKn21
import Derived.MapKept
import Derived.Carry
import Derived.Test.YtgmfgmbgmjbdhaaGreatDoorKn23
import Derived.Test.YtgmfgmbgmjbdhaaGreatDoorKn16
section
namespace Go.Proofs.YtgmfgmbgmjbdhaaGreatDoor
open Go Go.RowKit Go.Eng
set_option linter.unusedSimpArgs false
set_option linter.unusedVariables false
set_option maxRecDepth 100000
set_option maxHeartbeats 4000000
def signsB : ByteArray := ⟨#[65, 66, 67, 68, 69, 70, 71, 72, 73, 74, 75, 76, 77, 78, 79, 80, 81, 82, 83, 84, 85, 86, 87, 88, 89, 90, 97, 98, 99, 100, 101, 102, 103, 104, 105, 106, 107, 108, 109, 110, 111, 112, 113, 114, 115, 116, 117, 118, 119, 120, 121, 122, 48, 49, 50, 51, 52, 53, 54, 55, 56, 57, 45, 95]⟩
def cut3 (all : List Int) (x : Nat) : List Int := (all.drop x).take 3
def acc3 (c : List Int) : Nat → Int
  | 0 => 0
  | i + 1 => acc3 c i * 256 + c.getD i 0
def dig (n : Int) (i : Nat) : Int := n / 2 ^ (18 - 6 * i) % 64
def sgn (n : Int) (i : Nat) : Int := bAt signsB (dig n i)
def partT (n : Int) : Nat → ByteArray
  | 0 => ⟨#[]⟩
  | m + 1 => partT n m ++ byteB (sgn n m)
def fullT (c : List Int) : ByteArray := partT (acc3 c 3) (c.length + 1)
def textF (all : List Int) (xs : List Nat) : ByteArray := xs.foldl (fun s x => s ++ fullT (cut3 all x)) ⟨#[]⟩
def textB (all : List Int) : ByteArray := textF all (chunksUpto 3 ((all.length + 2) / 3))
theorem textF_snoc (all : List Int) (xs : List Nat) (x : Nat) : textF all (xs ++ [x]) = textF all xs ++ fullT (cut3 all x) := by unfold textF; rw [List.foldl_append]; rfl
theorem dig_bd (n : Int) (i : Nat) : 0 ≤ dig n i ∧ dig n i < 64 := by unfold dig; omega
theorem partT_size (n : Int) : ∀ m, (partT n m).size = m
  | 0 => rfl
  | m + 1 => by rw [partT, app_size, partT_size n m, byteB_size]
theorem cut3_len (all : List Int) (x : Nat) : (cut3 all x).length = min 3 (all.length - x) := by unfold cut3; rw [List.length_take, List.length_drop]
theorem cut3_ok {all : List Int} (h : ByteL all) (x : Nat) : ByteL (cut3 all x) := fun c hc => h c (List.mem_of_mem_drop (List.mem_of_mem_take hc))
theorem fullT_size (c : List Int) : (fullT c).size = c.length + 1 := partT_size _ _
theorem textF_sizeG (all : List Int) : ∀ (xs : List Nat) (s : ByteArray), s.size + xs.length ≤ (xs.foldl (fun s x => s ++ fullT (cut3 all x)) s).size ∧ (xs.foldl (fun s x => s ++ fullT (cut3 all x)) s).size ≤ s.size + 4 * xs.length
  | [], s => by simp
  | x :: r, s => by
    have h := textF_sizeG all r (s ++ fullT (cut3 all x))
    rw [app_size, fullT_size, cut3_len] at h
    rw [List.foldl_cons, List.length_cons]
    omega
theorem textF_size (all : List Int) (xs : List Nat) : xs.length ≤ (textF all xs).size ∧ (textF all xs).size ≤ 4 * xs.length := by
  have h := textF_sizeG all xs ⟨#[]⟩
  have e : (⟨#[]⟩ : ByteArray).size = 0 := rfl
  rw [e] at h
  unfold textF
  omega
theorem acc3_bd {c : List Int} (h : ByteL c) : ∀ i, i ≤ 3 → 0 ≤ acc3 c i ∧ acc3 c i < 2 ^ (8 * i)
  | 0, _ => ⟨Int.le_refl 0, by show (0 : Int) < 2 ^ 0; decide⟩
  | i + 1, hi => by
    obtain ⟨h1, h2⟩ := acc3_bd h i (by omega)
    have h3 := h.at i
    rw [acc3, show 8 * (i + 1) = 8 * i + 8 from by omega, Int.pow_add]
    have : (2 : Int) ^ 8 = 256 := by decide
    rw [this]
    omega
theorem acc3_lt {c : List Int} (h : ByteL c) {i : Nat} (hi : i ≤ 3) : 0 ≤ acc3 c i ∧ acc3 c i < 16777216 := by
  obtain ⟨h1, h2⟩ := acc3_bd h i hi
  refine ⟨h1, Int.lt_of_lt_of_le h2 ?_⟩
  match i, hi with
  | 0, _ => decide
  | 1, _ => decide
  | 2, _ => decide
  | 3, _ => decide
theorem getD_out (c : List Int) (i : Nat) (h : c.length ≤ i) : c.getD i 0 = 0 := by rw [List.getD_eq_getElem?_getD, List.getElem?_eq_none h]; rfl
theorem or64 (a c : Int) (ha : 0 ≤ a) (ha2 : a < 16777216) (hc : 0 ≤ c) (hck : c < 256) : IntKind.i64.wrap (BitVec.ofInt IntKind.i64.bits (a * 256) ||| BitVec.ofInt IntKind.i64.bits c).toNat = a * 256 + c := by
  obtain ⟨a, rfl⟩ := Int.eq_ofNat_of_zero_le ha
  obtain ⟨c, rfl⟩ := Int.eq_ofNat_of_zero_le hc
  have h1 : ((a : Int) * 256) = ((a * 2 ^ 8 : Nat) : Int) := by simp
  have h2 : c < 2 ^ 8 := by omega
  rw [h1]
  rw [show IntKind.i64.bits = 64 from rfl, BitVec.toNat_or, BitVec.toNat_ofInt, BitVec.toNat_ofInt]
  have e1 : (((a * 2 ^ 8 : Nat) : Int) % ((2 ^ 64 : Nat) : Int)).toNat = a * 2 ^ 8 := by omega
  have e2 : (((c : Nat) : Int) % ((2 ^ 64 : Nat) : Int)).toNat = c := by omega
  rw [e1, e2, ← Nat.shiftLeft_eq, ← Nat.shiftLeft_add_eq_or_of_lt h2, Nat.shiftLeft_eq, IntWalk.i64_in _ (by omega)]
  omega
theorem and63 (a : Int) (ha : 0 ≤ a) (ha2 : a < 16777216) : IntKind.i64.wrap (BitVec.ofInt IntKind.i64.bits a &&& BitVec.ofInt IntKind.i64.bits 63).toNat = a % 64 := by
  obtain ⟨a, rfl⟩ := Int.eq_ofNat_of_zero_le ha
  rw [show IntKind.i64.bits = 64 from rfl, BitVec.toNat_and, BitVec.toNat_ofInt, BitVec.toNat_ofInt]
  have e1 : (((a : Nat) : Int) % ((2 ^ 64 : Nat) : Int)).toNat = a := by omega
  have e2 : ((63 : Int) % ((2 ^ 64 : Nat) : Int)).toNat = 2 ^ 6 - 1 := by decide
  rw [e1, e2, Nat.and_two_pow_sub_one_eq_mod, IntWalk.i64_in _ (by omega)]
  omega
theorem shl3 (a : Int) (ha : 0 ≤ a) (ha2 : a < 16777216) : IntKind.i64.wrap (a * 2 ^ min (8 : Int).toNat IntKind.i64.bits) = a * 256 := by
  show IntKind.i64.wrap (a * 2 ^ 8) = _
  rw [IntWalk.i64_in _ (by omega)]; omega
theorem shr3 (a : Int) (ha : 0 ≤ a) (ha2 : a < 16777216) (i : Nat) (hi : i ≤ 3) : a.fdiv (2 ^ min ((18 : Int) - ((6 * i : Nat) : Int)).toNat IntKind.i64.bits) = a / 2 ^ (18 - 6 * i) ∧ 0 ≤ a / 2 ^ (18 - 6 * i) ∧ a / 2 ^ (18 - 6 * i) < 16777216 := by
  have e : min ((18 : Int) - ((6 * i : Nat) : Int)).toNat IntKind.i64.bits = 18 - 6 * i := by
    have : IntKind.i64.bits = 64 := rfl
    omega
  have hp : (0 : Int) < 2 ^ (18 - 6 * i) := Int.pow_pos (by decide)
  rw [e, Int.fdiv_eq_ediv_of_nonneg _ (by omega)]
  refine ⟨rfl, Int.ediv_nonneg ha (by omega), ?_⟩
  exact Int.lt_of_le_of_lt (Int.ediv_le_self _ ha) ha2
theorem app_nil0 (s : ByteArray) : s ++ (⟨#[]⟩ : ByteArray) = s := ByteArray.append_empty
theorem chunks3_len (k : Nat) : (chunksUpto 3 k).length = k := by unfold chunksUpto; simp
theorem text_done {n k : Nat} (h1 : n ≤ k * 3) (h2 : k = 0 ∨ (k - 1) * 3 < n) : k = (n + 2) / 3 := by omega
theorem sealT_spec (all : List Int) (hl0 : 0 < all.length) (hl : all.length ≤ 10000000000) (hab : ByteL all) (H : Hp) (hG : NoIt H) : ACall Tryz.prog 42 [.sl (encY all)] H (IsR H (.v (.string (textB all)))) := by
  refine UCall (n := 44) (H0 := H) (objs := []) Tryz.func42 (by kernel_rfl) rfl (by rw [Tryz.ntmps42]; rfl) .nil ?_
  refine S.sq (S.rg ?_)
  refine S.qu (Z.as rfl) ?_
  refine US.nil (UQ.then (S.sq (S.rg ?_)))
  refine S.dd (D.alp z82 rfl rfl (fun p => ?_))
  (refine US.nilCell (sz := 1) 0 1 5 (by decide) rfl rfl (fun r0 => ?_); simp only [List.set_cons_zero, List.set_cons_succ])
  refine US.nil (UQ.then (S.sq (S.sq (S.rg ?_))))
  refine S.qu (Z.mv rfl) ?_
  refine S.qu (Z.call rfl rfl (fun H => chunk_spec _ 3 (by decide) H)) ?_
  refine US.nil (UQ.then (UW.block ?_))
  have hfe : (fun x : Nat => AV.sl (((encY all).drop x).take 3)) = fun x => AV.sl (encY (cut3 all x)) := by
    funext x; unfold cut3; rw [encY_drop, encY_take]
  refine UW.rangeFunc (α := Nat) (β := Nat × AV × ByteArray) (gf := 118) (caps := [.rp [.sl (encY all)], .rp [.v (.int .i64 3)]]) (fun xs => ∃ k, xs = chunksUpto 3 k ∧ (encY all).length ≤ k * 3 ∧ (k = 0 ∨ (k - 1) * 3 < (encY all).length)) (fun xs => ∃ k, xs = chunksUpto 3 k) (encY all).length (fun x => .sl (encY (cut3 all x))) 0 rfl ⟨_, rfl, by kernel_rfl, by kernel_rfl⟩ (by decide) (by decide) (fun ρ w lb h1 h2 => hfe ▸ chunk_iter (encY all) (encY_sz all) (by rw [encY_len]; omega) 3 (by decide) (by decide) h1 h2) (fun b => bld p b.1 b.2.1 b.2.2) (fun b => bld p b.1 b.2.1 b.2.2) (fun xs b => Adr p b.2.1 ∧ b.2.2 = textF all xs) (fun _ _ => False) (r0, .v (.pointer none), ⟨#[]⟩) ⟨.inl rfl, rfl⟩ rfl hG (fun _ => rfl) (fun _ => rfl) ?_ ?_ (fun _ _ _ h => h.elim)
  · intro lp pre x b hJ hN
    letI : Rd := ⟨some lp⟩
    obtain ⟨r, a, s⟩ := b
    obtain ⟨hA, hs⟩ := hJ
    dsimp only at hA hs ⊢
    have hsz := textF_size all pre
    rw [encY_len] at hN
    rw [← hs] at hsz
    have hcl := cut3_len all x
    have hce := encY_len (cut3 all x)
    have hco := cut3_ok hab x
    have hsn := textF_snoc all pre x
    rw [← hs] at hsn
    generalize cut3 all x = c at *
    refine UW.block (S.sq (S.rg ?_))
    refine S.qu (Z.as rfl) ?_
    refine US.nil (UQ.then (S.sq (S.sq (S.rg ?_))))
    refine S.qu (Z.mv rfl) ?_
    refine US.nil (UQ.then (UW.block ?_))
    refine S.loop (fun i : Nat => [(11, .v (.int .i64 (i : Int))), (5, .v (.int .i64 (acc3 c i))), (4, .sl (encY c)), (3, .ptr p 0)]) (fun _ => bld p r a s) (fun i => i ≤ 3) (fun i => 3 - i) 0 (Nat.zero_le _) ⟨rfl, rfl, rfl, rfl, trivial⟩ (.refl _) ?_
    intro i hi
    have hac := acc3_lt hco hi
    by_cases hlt : i < 3
    · have hs3 := shl3 _ hac.1 hac.2
      by_cases hic : i < c.length
      · have hg := encY_get c i hic
        have hat := hco.at i
        refine S.sq (S.rg ?_)
        refine S.qu (Z.bi rfl rfl rfl) ?_
        refine US.nil (UQ.then (S.sq ?_))
        refine S.cT rfl (decide_eq_true (by omega)) ?_
        refine UW.skip (UQ.then (S.sq (UW.block (S.sq (S.rg ?_)))))
        refine S.qu (Z.mv rfl) ?_
        refine S.qu (Z.as rfl) ?_
        refine US.nil (UQ.then (S.sq (S.rg ?_)))
        refine S.qu (Z.mv rfl) ?_
        refine S.qu (Z.shl (r := acc3 c i * 256) rfl rfl (by decide) hs3) ?_
        refine S.qu (Z.as rfl) ?_
        refine US.nil (UQ.then (S.sq (S.rg ?_)))
        refine S.qu (Z.mv rfl) ?_
        refine S.qu (Z.mv rfl) ?_
        refine S.qu (Z.lns sl22 rfl) ?_
        refine S.qu (Z.bi rfl rfl rfl) ?_
        refine US.nil (UQ.then ?_)
        refine S.cT rfl (decide_eq_true (by omega)) ?_
        refine S.rg ?_
        refine S.qu (Z.mv rfl) ?_
        refine S.qu (Z.mv rfl) ?_
        refine S.qu (Z.mv rfl) ?_
        refine S.qu (Z.ia sl22 rfl rfl (by omega) hg (by rfl)) ?_
        refine S.qu (Z.lpc ty5 rfl) ?_
        refine S.qu (Z.cv Tryz.underlying3 rfl (IntWalk.i64_in _ (by omega)) (by rw [Tryz.underlying5]; rfl)) ?_
        refine S.qu (Z.eq (u' := .v (.int .i64 (acc3 c (i + 1)))) (Z.bi rfl rfl rfl) (by rw [or64 _ _ hac.1 (by have := acc3_lt hco (show i + 1 ≤ 3 by omega); rw [acc3] at this; omega) hat.1 hat.2]; rfl)) ?_
        refine S.qu (Z.as rfl) ?_
        refine US.nil (UQ.blockN (UQ.then (S.rg ?_)))
        refine S.qu (Z.add (r := ((i + 1 : Nat) : Int)) rfl rfl (IntWalk.i64_in _ (by omega))) ?_
        refine S.qu (Z.mv rfl) ?_
        refine US.nil ?_
        refine S.back _ ⟨rfl, rfl, rfl, rfl, trivial⟩ (.refl _) (by omega) (by omega)
      · have hac1 : acc3 c (i + 1) = acc3 c i * 256 := by rw [acc3, getD_out c i (by omega), Int.add_zero]
        refine S.sq (S.rg ?_)
        refine S.qu (Z.bi rfl rfl rfl) ?_
        refine US.nil (UQ.then (S.sq ?_))
        refine S.cT rfl (decide_eq_true (by omega)) ?_
        refine UW.skip (UQ.then (S.sq (UW.block (S.sq (S.rg ?_)))))
        refine S.qu (Z.mv rfl) ?_
        refine S.qu (Z.as rfl) ?_
        refine US.nil (UQ.then (S.sq (S.rg ?_)))
        refine S.qu (Z.mv rfl) ?_
        refine S.qu (Z.eq (u' := .v (.int .i64 (acc3 c (i + 1)))) (Z.shl (r := acc3 c i * 256) rfl rfl (by decide) hs3) (by rw [hac1])) ?_
        refine S.qu (Z.as rfl) ?_
        refine US.nil (UQ.then (S.sq (S.rg ?_)))
        refine S.qu (Z.mv rfl) ?_
        refine S.qu (Z.mv rfl) ?_
        refine S.qu (Z.lns sl22 rfl) ?_
        refine S.qu (Z.bi rfl rfl rfl) ?_
        refine US.nil (UQ.then ?_)
        refine S.cF rfl (decide_eq_false (by omega)) ?_
        refine UW.skip (UQ.blockN (UQ.then (S.rg ?_)))
        refine S.qu (Z.add (r := ((i + 1 : Nat) : Int)) rfl rfl (IntWalk.i64_in _ (by omega))) ?_
        refine S.qu (Z.mv rfl) ?_
        refine US.nil ?_
        refine S.back _ ⟨rfl, rfl, rfl, rfl, trivial⟩ (.refl _) (by omega) (by omega)
    · have hi3 : i = 3 := by omega
      subst hi3
      have hfs : fullT c = partT (acc3 c 3) (c.length + 1) := rfl
      generalize acc3 c 3 = n at *
      refine S.sq (S.rg ?_)
      refine S.qu (Z.bi rfl rfl rfl) ?_
      refine US.nil (UQ.then (S.sq ?_))
      refine S.cF rfl (decide_eq_false (by omega)) ?_
      refine UW.exit (UQ.pass (UQ.pass (UQ.here (UQ.then (S.sq (S.rg ?_))))))
      refine S.qu (Z.mv rfl) ?_
      refine S.qu (Z.lns sl22 rfl) ?_
      refine S.qu (Z.add rfl rfl (IntWalk.i64_in _ (by omega))) ?_
      refine S.qu (Z.mv rfl) ?_
      refine US.nil (UQ.then (UW.block ?_))
      refine S.loop (fun m : Nat × Nat × AV => [(31, .v (.int .i64 (m.1 : Int))), (30, .v (.int .i64 ((encY c).length + 1))), (5, .v (.int .i64 n)), (3, .ptr p 0)]) (fun m => bld p m.2.1 m.2.2 (s ++ partT n m.1)) (fun m => m.1 ≤ c.length + 1 ∧ Adr p m.2.2) (fun m => c.length + 1 - m.1) (0, r, a) ⟨Nat.zero_le _, hA⟩ ⟨rfl, rfl, rfl, rfl, trivial⟩ (by show (bld p r a (s ++ ⟨#[]⟩)).Sublist _; rw [app_nil0]; exact .refl _) ?_
      rintro ⟨m, r1, a1⟩ ⟨hm, hA1⟩
      dsimp only at hm hA1 ⊢
      by_cases hlt : m < c.length + 1
      · obtain ⟨q1, q2, q3⟩ := shr3 n hac.1 hac.2 m (by omega)
        have hdb := dig_bd n m
        have hbb := bAt_lt signsB (dig n m)
        have hst : (s ++ partT n m) ++ byteB (bAt signsB (dig n m)) = s ++ partT n (m + 1) := by rw [ByteArray.append_assoc]; rfl
        have hps := partT_size n m
        refine S.sq (S.rg ?_)
        refine S.qu (Z.bi rfl rfl rfl) ?_
        refine US.nil (UQ.then (S.sq ?_))
        refine S.cT rfl (decide_eq_true (by omega)) ?_
        refine UW.skip (UQ.then (S.sq (UW.block (S.sq (S.rg ?_)))))
        refine S.qu (Z.mv rfl) ?_
        refine S.qu (Z.as rfl) ?_
        refine US.nil (UQ.then (S.rg ?_))
        refine S.qu (Z.mv rfl) ?_
        refine S.qu (Z.mv rfl) ?_
        refine S.qu (Z.mul (r := ((6 * m : Nat) : Int)) rfl rfl (IntWalk.i64_in _ (by omega))) ?_
        refine S.qu (Z.sub rfl rfl (IntWalk.i64_in _ (by omega))) ?_
        refine S.qu (Z.shr (r := n / 2 ^ (18 - 6 * m)) rfl rfl (by omega) q1) ?_
        refine S.qu (Z.eq (u' := .v (.int .i64 (dig n m))) (Z.bi rfl rfl rfl) (by rw [and63 _ q2 q3]; rfl)) ?_
        refine S.qu (Z.is (p := signsB) Tryz.underlying9 rfl rfl (by omega) (by show _ < (64 : Int); omega)) ?_
        refine S.dd (D.co (.cons 0 rfl (.cons 0 rfl .nil)) rfl rfl (fun G hD => writeByte_to p r1 a1 hA1 (s ++ partT n m) (s ++ partT n (m + 1)) (by rw [app_size]; omega) _ hbb.1 hbb.2 hst G hD) ?_)
        (rintro _ _ ⟨rfl, r2, rfl⟩; simp only [bld, List.cons_append, List.nil_append])
        refine US.nil (UQ.blockN (UQ.then (S.rg ?_)))
        refine S.qu (Z.add (r := ((m + 1 : Nat) : Int)) rfl rfl (IntWalk.i64_in _ (by omega))) ?_
        refine S.qu (Z.mv rfl) ?_
        refine US.nil ?_
        refine S.back (m + 1, r2, .ptr p 0) ⟨rfl, rfl, rfl, rfl, trivial⟩ (.refl _) ?_ (by omega)
        exact ⟨by show m + 1 ≤ c.length + 1; omega, .inr rfl⟩
      · have hme : m = c.length + 1 := by omega
        subst hme
        rw [← hfs]
        refine S.sq (S.rg ?_)
        refine S.qu (Z.bi rfl rfl rfl) ?_
        refine US.nil (UQ.then (S.sq ?_))
        refine S.cF rfl (decide_eq_false (by omega)) ?_
        refine UW.exit (UQ.pass (UQ.pass (UQ.here (UQ.blockN ?_))))
        exact S.rdn (r1, a1, s ++ fullT c) ⟨hA1, by rw [hsn]⟩ (.refl _)
  · rintro xs ⟨r, a, s⟩ ⟨k, rfl, h1, h2⟩ ⟨hA, hs⟩
    rw [encY_len] at h1 h2
    have hk := text_done h1 h2
    have hsz := textF_size all (chunksUpto 3 k)
    dsimp only at hA hs ⊢
    rw [chunks3_len] at hsz
    rw [hk] at hs
    rw [hk] at hsz
    have hs2 : s = textB all := hs
    clear hs
    subst hs2
    have hsz : (all.length + 2) / 3 ≤ (textB all).size ∧ (textB all).size ≤ 4 * ((all.length + 2) / 3) := hsz
    refine UQ.blockN (UQ.then (S.sq (S.rg ?_)))
    refine S.dd (D.co (.cons 0 rfl (.cons 0 rfl .nil)) rfl rfl (fun G hD => bldString_spec p r a (textB all) (by omega) (by omega) G hD) ?_)
    rintro _ _ ⟨rfl, rfl⟩
    refine S.qu (Z.as rfl) ?_
    refine US.nil (UQ.then (UW.ret ?_))
    refine S.rtR (fun _ => res_tmp rfl rfl) ?_
    rfl
end Go.Proofs.YtgmfgmbgmjbdhaaGreatDoor
end
section
namespace Go.Eng
open Go Go.RowKit Go.MapKept
set_option linter.unusedVariables false
set_option linter.unusedSimpArgs false
set_option linter.unusedSectionVars false
variable [Rd]
/-- A map from texts: its elements' type. -/
def mapT (P : Program) (t : TypeId) : Option Nat :=
  match P.underlying t with
  | some (.map k e) => match P.underlying k with
    | some .string => some e
    | _ => none
  | _ => none
theorem mapT_some {P : Program} {t e : Nat} (h : mapT P t = some e) : ∃ k, P.underlying t = some (.map k e) ∧ P.underlying k = some .string := by
  unfold mapT at h
  split at h
  · rename_i k e' hu
    split at h
    · rename_i hk; cases h; exact ⟨k, hu, hk⟩
    · cases h
  · cases h
def lookE : List (ByteArray × AV) → ByteArray → Option AV
  | [], _ => none
  | (k, u) :: r, s => if s = k then some u else lookE r s
theorem findNow_es (s : ByteArray) : ∀ (es : List (ByteArray × AV)) (l : List MapEntry) (i : Nat), l.map (·.key) = es.map (fun e => Value.string e.1) →
    (lookE es s = none → Instr.findNow .string (.string s) l i = some none) ∧ (∀ u, lookE es s = some u → ∃ (j : Nat) (v : Value), Instr.findNow .string (.string s) l i = some (some (i + j, v)) ∧ (l.map (·.val))[j]? = some v ∧ (es.map (·.2))[j]? = some u)
  | [], [], i, _ => ⟨fun _ => rfl, fun u h => by cases h⟩
  | [], _ :: _, i, h => by cases h
  | _ :: _, [], i, h => by cases h
  | (k, u0) :: r, e :: l, i, h => by
    simp only [List.map_cons, List.cons.injEq] at h
    obtain ⟨h1, h2⟩ := h
    obtain ⟨a, b⟩ := findNow_es s r l (i + 1) h2
    by_cases hs : s = k
    · subst hs
      refine ⟨fun hh => by simp [lookE] at hh, fun u hh => ⟨0, e.val, ?_, rfl, ?_⟩⟩
      · have hss : (s == s) = true := (bytes_beq s s).2 rfl
        simp only [Instr.findNow, h1, Instr.sameNow, hss, Nat.add_zero]
      · simp [lookE] at hh
        simp [hh]
    · have hne : (s == k) = false := by
        cases hb : (s == k) with
        | false => rfl
        | true => exact absurd ((bytes_beq s k).1 hb) hs
      constructor
      · intro hh
        simp only [lookE, if_neg hs] at hh
        simp [Instr.findNow, h1, Instr.sameNow, hne, a hh]
      · intro u hh
        simp only [lookE, if_neg hs] at hh
        obtain ⟨j, v, h3, h4, h5⟩ := b u hh
        refine ⟨j + 1, v, ?_, by simpa using h4, by simpa using h5⟩
        simp [Instr.findNow, h1, Instr.sameNow, hne, h3]
        omega
section
variable {P : Program} {n : Nat} {ops : Array Oper} {T : Sl} {H H0 : Hp} {o : Oper} {K : AV → Hp → Prop} {l : List (Nat × AV)} {objs : List (Nat × Ob)} {x y z : Operand} {dst : Option Nat} {ty t : TypeId} {ps : String} {af : Array Edge} {u : AV} {es : List (ByteArray × AV)} {id : Nat} {s : ByteArray}
theorem Does.makeMap (hg : o.guard = none) (ho : o.op = .makeMap t none) (hk : ∀ id, H id = none → K (.mpr id) (set H id (some (.mp [])))) : Does P n ops o T H K := by
  refine Does.newOb hg fun a w ρ h hr => ?_
  have hex : (execOp a.eval o).run P w = .ok (.value (.map (some w.heap.size))) (w.alloc (.map #[] 0)) := by
    unfold execOp
    rw [ho]
    simp only [Option.map_none, Sem.run_bind, run_makeMap, Result.andThen_ok, Sem.run_pure]
  refine ⟨_, _, _, .mp [], hex, below_alloc _ _, ?_, fun ρ' H' e' => ⟨w.heap.size, #[], 0, rfl, heap_alloc_new w _, rfl, rfl, fun j u x h => by simp at h⟩, fun id hid => ⟨.mpr id, fun ok' ρ' h' => .mpr id _ h', hk id hid⟩⟩
  intro k hk; cases hk; rw [size_alloc]; simp
theorem map_at {ρ : Rho} {w : World} {v : Value} (h : HRel ρ H w) (h2 : H id = some (.mp es)) (hx : Rep (okOf ρ H) ρ w (.mpr id) v) :
    ∃ g l clk, v = .map (some g) ∧ ρ id = some (.map (some g)) ∧ w.heap[g]? = some (.map l clk) ∧ l.toList.map (·.key) = es.map (fun e => Value.string e.1) ∧ RepCells (okOf ρ H) ρ w (es.map (·.2)) (l.toList.map (·.val)) := by
  obtain ⟨v0, hv0, g, l, clk, rfl, hg, h3, h4⟩ := h.ob _ _ h2
  cases hx with
  | mpr _ g' hr => rw [hv0] at hr; cases hr; exact ⟨g, l, clk, rfl, hv0, hg, h3, h4⟩
theorem Does.insert {e : Nat} (hg : o.guard = none) (ho : o.op = .insert t x y z) (ht : mapT P t = some e) (hx : ev T x = .mpr id) (h2 : H id = some (.mp es)) (hy : ev T y = .v (.string s)) (hz : ev T z = u) (hc : cellAV u = true) (hn : lookE es s = none)
    (hk : K .any (set H id (some (.mp (es ++ [(s, u)]))))) : Does P n ops o T H K := by
  intro a w ρ h1 hd h3 h4 N Q hN
  rw [if_pos (by simp [Region.wanted, hg])]
  have hr := ev_rep h4
  have h5 := hr x
  rw [hx] at h5
  have h6 := rep_v (by have := hr y; rw [hy] at this; exact this)
  have h7 := hr z
  rw [hz] at h7
  obtain ⟨kt, hu, hkt⟩ := mapT_some ht
  obtain ⟨g, l, clk, hxx, hρ, hg0, hkeys, hvals⟩ := map_at h3 h2 h5
  have hkey : IsKey .string (.string s) := trivial
  have hf := (findNow_es s es l.toList 0 hkeys).1 hn
  have hex : (execOp a.eval o).run P w = .ok .skip { w with heap := w.heap.setIfInBounds g (.map (l.push ⟨.string s, a.eval z, clk⟩) (clk + 1)) } := by
    unfold execOp
    rw [ho]
    simp [hxx, h6, Instr.mapUpdate, run_underlying hu, Go.MapKept.run_getObj_map hg0, run_checkKey hkt hkey, run_findKey hkt hf, Go.MapKept.run_setObj_map _ hg0, Result.andThen]
  obtain ⟨hs1, hs2⟩ := heap_set (o' := .map (l.push ⟨.string s, a.eval z, clk⟩) (clk + 1)) hg0
  have hw := h3.write (w' := { w with heap := w.heap.setIfInBounds g (.map (l.push ⟨.string s, a.eval z, clk⟩) (clk + 1)) }) (.mp (es ++ [(s, u)])) h2 hρ rfl rfl rfl (by simp) (fun k _ hk => hs2 k (fun e => hk (by rw [e]; rfl))) (fun ρ' H' e' _ => ⟨g, _, _, rfl, hs1, by simp [hkeys], by
    have hv1 := e'.cells hvals
    have hz1 := e'.rep h7
    refine ⟨by simpa using hv1.1, fun j u' x' q1 q2 => ?_⟩
    simp only [List.map_append, List.map_cons, List.map_nil, Array.toList_push] at q1 q2
    by_cases hj : j < (es.map (·.2)).length
    · rw [List.getElem?_append_left hj] at q1
      rw [List.getElem?_append_left (by rw [← hv1.1]; exact hj)] at q2
      exact hv1.2 j u' x' q1 q2
    · rw [List.getElem?_append_right (by omega)] at q1
      rw [List.getElem?_append_right (by rw [← hv1.1]; omega), ← hv1.1] at q2
      generalize j - (es.map (·.2)).length = m at q1 q2
      cases m with
      | zero => simp at q1 q2; subst q1 q2; exact ⟨hz1, cellAV_one hz1 hc⟩
      | succ m => simp at q1⟩)
  unfold Oper.wp
  rw [hex]
  exact hN undef _ ρ .any _ hw.1 hw.2 (.any _) hk
theorem Does.lookup {e : Nat} {zv : Value} (hg : o.guard = none) (ho : o.op = .lookup t x y false) (ht : mapT P t = some e) (hz : (P.info? e).map (·.zero) = some (some zv)) (hx : ev T x = .mpr id) (h2 : H id = some (.mp es)) (hy : ev T y = .v (.string s)) (hu : (lookE es s).getD (.v zv) = u) (hk : K u H) : Does P n ops o T H K := by
  refine Does.val u hg (fun a w ρ hh hr => ?_) hk
  have h5 := hr x
  rw [hx] at h5
  have h6 := rep_v (by have := hr y; rw [hy] at this; exact this)
  obtain ⟨kt, hut, hkt⟩ := mapT_some ht
  obtain ⟨g, l, clk, hxx, hρ, hg0, hkeys, hvals⟩ := map_at hh h2 h5
  have hkey : IsKey .string (.string s) := trivial
  obtain ⟨f1, f2⟩ := findNow_es s es l.toList 0 hkeys
  obtain ⟨ie, hie, hze⟩ := Option.map_eq_some_iff.1 hz
  cases hl : lookE es s with
  | none =>
    refine ⟨zv, ?_, by rw [← hu, hl]; exact .v _⟩
    unfold execOp
    rw [ho]
    simp [hxx, h6, Instr.lookup, run_underlying hut, Go.MapKept.run_getObj_map hg0, run_checkKey hkt hkey, run_findKey hkt (f1 hl), zeroValue, typeInfo, hie, hze, Result.andThen]
  | some u' =>
    obtain ⟨j, v, q1, q2, q3⟩ := f2 u' hl
    refine ⟨v, ?_, by rw [← hu, hl]; exact (hvals.2 j _ _ q3 q2).1⟩
    unfold execOp
    rw [ho]
    simp [hxx, h6, Instr.lookup, run_underlying hut, Go.MapKept.run_getObj_map hg0, run_checkKey hkt hkey, run_findKey hkt q1, Result.andThen]
theorem D.mkm {K : AV → List (Nat × Ob) → Prop} (hk : ∀ id, K (.mpr id) ((id, .mp []) :: objs)) : DS P n ops H0 ⟨dst, .makeMap t none, ty, ps, af, none⟩ l objs K :=
  fun hdist => Does.makeMap rfl rfl fun id hid => ⟨(id, .mp []) :: objs, rfl, .cons hid hdist, hk id⟩
theorem D.ins {e : Nat} {objs' : List (Nat × Ob)} {K : AV → List (Nat × Ob) → Prop} (k : Nat) (ht : mapT P t = some e) (hx : evO l x = some (.mpr id)) (h2 : objs[k]? = some (id, .mp es)) (hy : evO l y = some (.v (.string s))) (hz : evO l z = some u) (hc : cellAV u = true) (hn : lookE es s = none) (hob : objs.set k (id, .mp (es ++ [(s, u)])) = objs') (hk : ∀ u, K u objs') : DS P n ops H0 ⟨dst, .insert t x y z, ty, ps, af, none⟩ l objs K := fun hdist => by
  subst hob
  exact Does.insert rfl rfl ht (ev_of hx) (hdist.at_ h2) (ev_of hy) (ev_of hz) hc hn ⟨_, (hdist.set_ _ h2).1, (hdist.set_ _ h2).2, hk _⟩
theorem Z.lkm {e : Nat} {zv : Value} (k : Nat) (ht : mapT P t = some e) (hz : (P.info? e).map (·.zero) = some (some zv)) (hx : evO l x = some (.mpr id)) (h2 : objs[k]? = some (id, .mp es)) (hy : evO l y = some (.v (.string s))) (hu : (lookE es s).getD (.v zv) = u) : QS P n ops H0 ⟨dst, .lookup t x y false, ty, ps, af, none⟩ l objs u := fun hd => Does.lookup rfl rfl ht hz (ev_of hx) (hd.at_ h2) (ev_of hy) hu ⟨rfl, rfl⟩
end
end Go.Eng
end
section
namespace Go.Proofs.YtgmfgmbgmjbdhaaGreatDoor
open Go Go.RowKit Go.Eng
set_option linter.unusedSimpArgs false
set_option linter.unusedVariables false
set_option maxRecDepth 100000
theorem insAt_mem {α : Type} {l : List α} {i : Nat} {a b : α} (h : b ∈ insAt l i a) : b ∈ l ∨ b = a := by
  unfold insAt at h
  rcases List.mem_append.1 h with h | h
  · exact .inl (List.mem_of_mem_take h)
  · rcases List.mem_cons.1 h with h | h
    · exact .inr h
    · exact .inl (List.mem_of_mem_drop h)
theorem withV_lens (x : V) (key : ByteArray) (y : V) : (withV x key y).ks.length ≤ (objV x).ks.length + 1 ∧ (withV x key y).vs.length ≤ (objV x).vs.length + 1 ∧ (withV x key y).k = 5 := by
  have hk : (objV x).k = 5 := by unfold objV; split <;> first | assumption | rfl
  have hc : (cutV (objV x)).ks.length ≤ (objV x).ks.length ∧ (cutV (objV x)).vs.length ≤ (objV x).vs.length := by simp only [cutV, vks, vvs, List.length_take]; omega
  have h1 := insAtPos_le (cutV (objV x)).ks key
  unfold withV
  split
  · simp only [vks, vvs, vk, List.length_set]; omega
  · simp only [vks, vvs, vk]
    rw [insAt_len _ _ _ h1, insAt_len _ _ _ (by rw [← cut_lens]; exact h1)]; omega
theorem Fits.of {x : V} (h1 : x.ks.length ≤ 1000000) (h2 : x.vs.length ≤ 1000000) (h : ∀ y ∈ x.vs, Fits y) : Fits x := by
  obtain ⟨k, n, t, ks, vs⟩ := x
  exact .mk k n t ks vs h1 h2 h
theorem fits_zero : Fits zeroV := .mk _ _ _ _ _ (by decide) (by decide) (by simp)
end Go.Proofs.YtgmfgmbgmjbdhaaGreatDoor
end
section
namespace Go.Proofs.YtgmfgmbgmjbdhaaGreatDoor
open Go Go.RowKit Go.Eng
set_option linter.unusedSimpArgs false
set_option linter.unusedVariables false
set_option maxRecDepth 100000
theorem cmpL_self : ∀ a : List UInt8, Lib.compareBytes a a = 0
  | [] => rfl
  | a :: l => by
    rw [Lib.compareBytes, if_neg (by exact UInt8.lt_irrefl a), if_neg (by exact UInt8.lt_irrefl a), cmpL_self l]
theorem u8_tri (a b : UInt8) (h1 : ¬ a < b) (h2 : ¬ b < a) : a = b := by
  apply UInt8.toNat_inj.1
  rw [UInt8.lt_iff_toNat_lt] at h1 h2
  omega
theorem cmpL_eq0 : ∀ a b : List UInt8, Lib.compareBytes a b = 0 → a = b
  | [], [], _ => rfl
  | [], _ :: _, h => by simp [Lib.compareBytes] at h
  | _ :: _, [], h => by simp [Lib.compareBytes] at h
  | a :: l, b :: r, h => by
    rw [Lib.compareBytes] at h
    split at h
    · cases h
    · split at h
      · cases h
      · rename_i h1 h2
        rw [u8_tri a b h1 h2, cmpL_eq0 l r h]
theorem cmpL_anti : ∀ a b : List UInt8, Lib.compareBytes b a = - Lib.compareBytes a b
  | [], [] => rfl
  | [], _ :: _ => rfl
  | _ :: _, [] => rfl
  | a :: l, b :: r => by
    rw [Lib.compareBytes, Lib.compareBytes]
    by_cases h1 : a < b
    · have h2 : ¬ b < a := by rw [UInt8.lt_iff_toNat_lt] at h1 ⊢; omega
      rw [if_neg h2, if_pos h1, if_pos h1]; rfl
    · by_cases h2 : b < a
      · rw [if_pos h2, if_neg h1, if_pos h2]
      · rw [if_neg h2, if_neg h1, if_neg h1, if_neg h2]; exact cmpL_anti l r
theorem cmpL_trans : ∀ a b c : List UInt8, Lib.compareBytes a b < 0 → Lib.compareBytes b c < 0 → Lib.compareBytes a c < 0
  | [], _, [], h1, h2 => by
    rename_i b
    cases b with
    | nil => simp [Lib.compareBytes] at h1
    | cons x r => simp [Lib.compareBytes] at h2
  | [], _, _ :: _, _, _ => by simp [Lib.compareBytes]
  | _ :: _, [], _, h1, _ => by simp [Lib.compareBytes] at h1
  | _ :: _, _ :: _, [], _, h2 => by simp [Lib.compareBytes] at h2
  | a :: l, b :: r, c :: q, h1, h2 => by
    rw [Lib.compareBytes] at h1 h2 ⊢
    by_cases ab : a < b
    · by_cases bc : b < c
      · rw [if_pos (by rw [UInt8.lt_iff_toNat_lt] at *; omega)]; decide
      · rw [if_neg bc] at h2
        by_cases cb : c < b
        · rw [if_pos cb] at h2; simp at h2
        · have := u8_tri b c bc cb; subst this
          rw [if_pos ab]; decide
    · rw [if_neg ab] at h1
      by_cases ba : b < a
      · rw [if_pos ba] at h1; simp at h1
      · have := u8_tri a b ab ba; subst this
        rw [if_neg ba] at h1
        by_cases bc : a < c
        · rw [if_pos bc]; decide
        · rw [if_neg bc] at h2 ⊢
          by_cases cb : c < a
          · rw [if_pos cb] at h2; simp at h2
          · rw [if_neg cb] at h2 ⊢; exact cmpL_trans l r q h1 h2
theorem less_irr (a : ByteArray) : lessB a a = false := by unfold lessB cmpB; rw [cmpL_self]; rfl
theorem less_trans {a b c : ByteArray} (h1 : lessB a b = true) (h2 : lessB b c = true) : lessB a c = true := by
  unfold lessB at *; exact decide_eq_true (cmpL_trans _ _ _ (of_decide_eq_true h1) (of_decide_eq_true h2))
theorem less_tri {a b : ByteArray} (h1 : lessB a b = false) (h2 : a ≠ b) : lessB b a = true := by
  unfold lessB cmpB at *
  have h3 := of_decide_eq_false h1
  have h4 : Lib.compareBytes a.data.toList b.data.toList ≠ 0 := fun h => h2 (ByteArray.ext (Array.toList_inj.1 (cmpL_eq0 _ _ h)))
  exact decide_eq_true (by rw [cmpL_anti]; omega)
/-- Keys in order, each above the one before. -/
def Asc (ks : List ByteArray) : Prop := ∀ i j (hi : i < ks.length) (hj : j < ks.length), i < j → lessB ks[i] ks[j] = true
theorem asc_ne {ks : List ByteArray} (h : Asc ks) {i j : Nat} (hi : i < ks.length) (hj : j < ks.length) (e : ks[i] = ks[j]) : i = j := by
  rcases Nat.lt_trichotomy i j with h1 | h1 | h1
  · have := h i j hi hj h1; rw [e, less_irr] at this; cases this
  · exact h1
  · have := h j i hj hi h1; rw [e, less_irr] at this; cases this
theorem keyIdx_asc {ks : List ByteArray} (h : Asc ks) {i : Nat} (hi : i < ks.length) : keyIdx ks ks[i] = some i :=
  keyIdx_at hi (by simp) fun j hj hji => by
    by_cases e : ks[i].toList = ks[j].toList
    · have := asc_ne h hj hi (bytes_ext e).symm; omega
    · simpa using e
theorem keyIdx_not {ks : List ByteArray} {s : ByteArray} (h : keyIdx ks s = none) : s ∉ ks := fun hm => by
  unfold keyIdx at h
  rw [List.findIdx?_eq_none_iff] at h
  have := h s hm
  simp at this
end Go.Proofs.YtgmfgmbgmjbdhaaGreatDoor
end
section
namespace Go.Proofs.YtgmfgmbgmjbdhaaGreatDoor
open Go Go.RowKit Go.Eng
set_option linter.unusedSimpArgs false
set_option linter.unusedVariables false
set_option maxRecDepth 100000
set_option maxHeartbeats 4000000
def createB : ByteArray := ⟨#[109, 46, 114, 111, 111, 109, 46, 99, 114, 101, 97, 116, 101]⟩
def memberB : ByteArray := ⟨#[109, 46, 114, 111, 111, 109, 46, 109, 101, 109, 98, 101, 114]⟩
def powerB : ByteArray := ⟨#[109, 46, 114, 111, 111, 109, 46, 112, 111, 119, 101, 114, 95, 108, 101, 118, 101, 108, 115]⟩
def joinsB : ByteArray := ⟨#[109, 46, 114, 111, 111, 109, 46, 106, 111, 105, 110, 95, 114, 117, 108, 101, 115]⟩
def aclB : ByteArray := ⟨#[109, 46, 114, 111, 111, 109, 46, 115, 101, 114, 118, 101, 114, 95, 97, 99, 108]⟩
def membershipB : ByteArray := ⟨#[109, 101, 109, 98, 101, 114, 115, 104, 105, 112]⟩
def joinRuleB : ByteArray := ⟨#[106, 111, 105, 110, 95, 114, 117, 108, 101]⟩
def allowB : ByteArray := ⟨#[97, 108, 108, 111, 119]⟩
def denyB : ByteArray := ⟨#[100, 101, 110, 121]⟩
def powerT : ByteArray := ⟨#[98, 97, 110, 32, 101, 118, 101, 110, 116, 115, 32, 101, 118, 101, 110, 116, 115, 95, 100, 101, 102, 97, 117, 108, 116, 32, 105, 110, 118, 105, 116, 101, 32, 107, 105, 99, 107, 32, 115, 116, 97, 116, 101, 95, 100, 101, 102, 97, 117, 108, 116, 32, 117, 115, 101, 114, 115, 32, 117, 115, 101, 114, 115, 95, 100, 101, 102, 97, 117, 108, 116]⟩
def fieldT : ByteArray := ⟨#[97, 117, 116, 104, 95, 101, 118, 101, 110, 116, 115, 32, 99, 111, 110, 116, 101, 110, 116, 32, 100, 101, 112, 116, 104, 32, 104, 97, 115, 104, 101, 115, 32, 111, 114, 105, 103, 105, 110, 95, 115, 101, 114, 118, 101, 114, 95, 116, 115, 32, 112, 114, 101, 118, 95, 101, 118, 101, 110, 116, 115, 32, 114, 111, 111, 109, 95, 105, 100, 32, 115, 101, 110, 100, 101, 114, 32, 115, 116, 97, 116, 101, 95, 107, 101, 121, 32, 116, 121, 112, 101]⟩
def powerL : List ByteArray := [⟨#[98, 97, 110]⟩, ⟨#[101, 118, 101, 110, 116, 115]⟩, ⟨#[101, 118, 101, 110, 116, 115, 95, 100, 101, 102, 97, 117, 108, 116]⟩, ⟨#[105, 110, 118, 105, 116, 101]⟩, ⟨#[107, 105, 99, 107]⟩, ⟨#[115, 116, 97, 116, 101, 95, 100, 101, 102, 97, 117, 108, 116]⟩, ⟨#[117, 115, 101, 114, 115]⟩, ⟨#[117, 115, 101, 114, 115, 95, 100, 101, 102, 97, 117, 108, 116]⟩]
def fieldL : List ByteArray := [⟨#[97, 117, 116, 104, 95, 101, 118, 101, 110, 116, 115]⟩, ⟨#[99, 111, 110, 116, 101, 110, 116]⟩, ⟨#[100, 101, 112, 116, 104]⟩, ⟨#[104, 97, 115, 104, 101, 115]⟩, ⟨#[111, 114, 105, 103, 105, 110, 95, 115, 101, 114, 118, 101, 114, 95, 116, 115]⟩, ⟨#[112, 114, 101, 118, 95, 101, 118, 101, 110, 116, 115]⟩, ⟨#[114, 111, 111, 109, 95, 105, 100]⟩, ⟨#[115, 101, 110, 100, 101, 114]⟩, ⟨#[115, 116, 97, 116, 101, 95, 107, 101, 121]⟩, ⟨#[116, 121, 112, 101]⟩]
theorem mp57 : mapT Tryz.prog 57 = some 23 := by kernel_rfl
/-- strings.Fields of plain texts. -/
theorem fields_spec (s : ByteArray) (l : List ByteArray) (hs : s.size < 1000) (ha : (s.data.toList.all fun b => b.toNat < 128) = true) (hl : (Lib.fields s.data.toList).map (fun l => (⟨l.toArray⟩ : ByteArray)) = l) (h2 : l.length ≤ 1000) (H : Hp) (hG : Glob H) : ACall Tryz.prog 46 [.v (.string s)] H (IsR H (strs l)) := by
  refine ⟨⟨_, Tryz.func46, by kernel_rfl, by kernel_rfl⟩, fun ρ w vals hh hr => ?_⟩
  obtain ⟨hvl, hr⟩ := hr
  match vals, hvl, hr with
  | [v], _, hr =>
    have e1 := rep_v (hr 0 _ _ rfl rfl)
    subst e1
    refine (Tryz.strings_Fields s w (by omega) (fun j b hb => by simpa using List.all_eq_true.1 ha b (List.mem_of_getElem? hb)) (hG.2.tab hh)).mono ?_
    rintro e w' ⟨rfl, rfl⟩
    have hll : (Lib.fields s.data.toList).length = l.length := by rw [← hl, List.length_map]
    have hcells : (Lib.fields s.data.toList).map (fun l => Value.string ⟨l.toArray⟩) = l.map Value.string := by rw [← hl, List.map_map]; rfl
    rw [hll, hcells]
    obtain ⟨q1, q2⟩ := hh.below (below_alloc w (.cells (l.map Value.string).toArray 9))
    have hnew : okOf ρ H w.heap.size := by
      rintro ⟨id, ob, v, _, b, c⟩
      have := hh.lt id v _ b c
      omega
    refine ⟨_, ρ, strs l, H, rfl, q1, q2, ?_, rfl, rfl⟩
    have := Rep.sl (ok := okOf ρ H) (ρ := ρ) (w := w.alloc (.cells (l.map Value.string).toArray 9)) (l.map encS) ⟨w.heap.size, 0, none⟩ l.length 1 (fun i j => .string (l.getD i ⟨#[]⟩)) (by rw [List.length_map]; exact Nat.le_refl _) (by simp only [maxLen]; omega) (fun _ => ⟨hnew, by rw [size_alloc]; simp⟩) (strs_sz l) (fun i cs j hi hj => ?_) (fun i cs j u hi hj => ?_)
    · rw [List.length_map] at this; exact this
    · have hc1 := strs_sz l cs (List.mem_of_getElem? hi)
      have hj0 : j = 0 := by omega
      subst hj0
      have hil : i < l.length := by have := (List.getElem?_eq_some_iff.1 hi).1; rwa [List.length_map] at this
      rw [add_plain]
      refine ⟨?_, rfl⟩
      simp only [World.cell?, heap_alloc_new]
      simp [hil]
    · have hil : i < l.length := by have := (List.getElem?_eq_some_iff.1 hi).1; rwa [List.length_map] at this
      rw [List.getElem?_map, List.getElem?_eq_getElem hil] at hi
      cases hi
      have hj0 : j = 0 := by have := (List.getElem?_eq_some_iff.1 hj).1; simpa [encS] using this
      subst hj0
      simp [encS] at hj
      subst hj
      simp [hil]
      exact .v _
theorem power_fields : (Lib.fields powerT.data.toList).map (fun l => (⟨l.toArray⟩ : ByteArray)) = powerL := by kernel_rfl
theorem field_fields : (Lib.fields fieldT.data.toList).map (fun l => (⟨l.toArray⟩ : ByteArray)) = fieldL := by kernel_rfl
def hasB (l : List ByteArray) (s : ByteArray) : Bool := l.any fun x => s.toList == x.toList
theorem hasB_mem {l : List ByteArray} {s : ByteArray} : hasB l s = true ↔ s ∈ l := by
  unfold hasB
  rw [List.any_eq_true]
  constructor
  · rintro ⟨x, h1, h2⟩
    rw [bytes_ext (by simpa using h2 : s.toList = x.toList)]; exact h1
  · intro h; exact ⟨s, h, by simp⟩
theorem idx_mem (l : List ByteArray) (s : ByteArray) : decide (oi (keyIdx l s) ≥ 0) = hasB l s := by
  cases h : keyIdx l s with
  | none =>
    have := keyIdx_not h
    rw [← hasB_mem] at this
    have h2 : hasB l s = false := by simpa using this
    rw [h2]
    rfl
  | some i =>
    unfold keyIdx at h
    obtain ⟨hi, h1, _⟩ := List.findIdx?_eq_some_iff_getElem.1 h
    have : hasB l s = true := List.any_eq_true.2 ⟨l[i], List.getElem_mem hi, h1⟩
    rw [this]
    rfl
theorem contains_spec (l : List ByteArray) (s : ByteArray) (hl : l.length ≤ 1000000) (H : Hp) : ACall Tryz.prog 49 [strs l, .v (.string s)] H (IsR H (.v (.bool (hasB l s)))) := by
  have hi := idx_mem l s
  unfold strs
  refine UCall (n := 9) (H0 := H) (objs := []) Tryz.func49 (by kernel_rfl) rfl (by rw [Tryz.ntmps49]; rfl) .nil ?_
  refine S.sq (S.rg ?_)
  refine S.qu (Z.as rfl) ?_
  refine US.nil (UQ.then (S.sq (S.rg ?_)))
  refine S.qu (Z.mv rfl) ?_
  refine S.qu (Z.mv rfl) ?_
  refine S.qu (Z.call rfl rfl (fun _ => index_spec l s hl _)) ?_
  refine S.qu (Z.bi rfl rfl rfl) ?_
  refine S.qu (Z.as rfl) ?_
  refine US.nil (UQ.then (UW.ret ?_))
  refine S.rtR (fun _ => res_tmp rfl rfl) ?_
  focus (rw [← hi]; done)
def keptE : List (ByteArray × AV) := [(memberB, strs [membershipB]), (powerB, strs powerL), (joinsB, strs [joinRuleB]), (aclB, strs [allowB, denyB])]
def keptL (kind : ByteArray) : List ByteArray := if kind = memberB then [membershipB] else if kind = powerB then powerL else if kind = joinsB then [joinRuleB] else if kind = aclB then [allowB, denyB] else []
def keptB (kind key : ByteArray) : Bool := kind.toList == createB.toList || hasB (keptL kind) key
theorem keptL_len (kind : ByteArray) : (keptL kind).length ≤ 8 := by
  unfold keptL
  (repeat' split) <;> decide
theorem lookE_kept (kind : ByteArray) : lookE keptE kind = some (strs (keptL kind)) ∨ (lookE keptE kind = none ∧ keptL kind = []) := by
  unfold keptL keptE
  simp only [lookE]
  (repeat' split) <;> first | exact .inl rfl | exact .inr ⟨rfl, rfl⟩
theorem keptM_spec (H : Hp) (hG : Glob H) : ACall Tryz.prog 51 [] H (fun u H' => ∃ news, Dist H news ∧ H' = extH H news ∧ ∃ id, u = .mpr id ∧ news = [(id, .mp keptE)]) := by
  refine UCall (n := 7) (H0 := H) (objs := []) Tryz.func51 (by kernel_rfl) rfl (by rw [Tryz.ntmps51]; rfl) .nil ?_
  refine S.sq (S.rg ?_)
  refine S.qu (Z.as rfl) ?_
  refine US.nil (UQ.then (S.sq (S.rg ?_)))
  refine S.dd (D.mkm (fun p1 => ?_))
  refine S.qu (Z.bl row23 rfl rfl (lit_ok rfl)) ?_
  refine S.s (D.ins 0 mp57 rfl rfl rfl rfl rfl rfl rfl (fun _ => ?_))
  refine S.qu (Z.callg rfl rfl (fun _ hS => fields_spec powerT powerL (by decide) (by decide) power_fields (by decide) _ (hG.mono hS))) ?_
  refine S.s (D.ins 0 mp57 rfl rfl rfl rfl rfl rfl rfl (fun _ => ?_))
  refine S.qu (Z.bl row23 rfl rfl (lit_ok rfl)) ?_
  refine S.s (D.ins 0 mp57 rfl rfl rfl rfl rfl rfl rfl (fun _ => ?_))
  refine S.qu (Z.bl row23 rfl rfl (lit_ok rfl)) ?_
  refine S.s (D.ins 0 mp57 rfl rfl rfl rfl rfl rfl rfl (fun _ => ?_))
  refine S.qu (Z.mv rfl) ?_
  refine S.qu (Z.as rfl) ?_
  refine US.nil (UQ.then (UW.ret ?_))
  exact retR [_] (fun _ => res_tmp rfl rfl) (.refl _) fun hd => ⟨_, hd, rfl, _, rfl, rfl⟩
theorem kept_spec (kind key : ByteArray) (H : Hp) (hG : Glob H) : ACall Tryz.prog 23 [.v (.string kind), .v (.string key)] H (IsR H (.v (.bool (keptB kind key)))) := by
  have hl := keptL_len kind
  rcases lookE_kept kind with hk | ⟨hk, hk2⟩
  · refine UCall (n := 14) (H0 := H) (objs := []) Tryz.func23 (by kernel_rfl) rfl (by rw [Tryz.ntmps23]; rfl) .nil ?_
    refine S.sq (S.rg ?_)
    refine S.qu (Z.as rfl) ?_
    refine US.nil (UQ.then (S.sq (S.rg ?_)))
    refine S.qu (Z.mv rfl) ?_
    refine S.qu (Z.bs rfl rfl rfl) ?_
    refine S.qu (Z.mv rfl) ?_
    refine S.tE 7 (fun hc7 => ?_) (fun hc7 => ?_)
    refine S.qu (Z.of) ?_
    refine S.qu (Z.of) ?_
    refine S.qu (Z.of) ?_
    refine S.qu (Z.of) ?_
    refine S.qu (Z.of) ?_
    refine S.qu (Z.pick rfl rfl) ?_
    refine S.qu (Z.as rfl) ?_
    refine US.nil (UQ.then (UW.ret ?_))
    refine S.rtR (fun _ => res_tmp rfl rfl) ?_
    focus (rw [keptB, show (kind.toList == createB.toList) = true from beq_t hc7, Bool.true_or]; done)
    refine S.dd (D.on (D.cne rfl rfl (fun hd => keptM_spec _ (hG.ext hd)) ?_))
    rintro _ _ ⟨p8, rfl, rfl⟩
    refine S.qu (Z.on (Z.mv rfl)) ?_
    refine S.qu (Z.on (Z.lkm (u := strs (keptL kind)) 0 mp57 z23 rfl rfl rfl (congrArg (fun o => Option.getD o (.v (.slice none 0 0))) hk))) ?_
    refine S.qu (Z.on (Z.mv rfl)) ?_
    refine S.qu (Z.on (Z.call rfl rfl (fun H => contains_spec (keptL kind) key (by omega) H))) ?_
    refine S.qu (Z.pick rfl rfl) ?_
    refine S.qu (Z.as rfl) ?_
    refine US.nil (UQ.then (UW.ret ?_))
    refine S.rtR (fun _ => res_tmp rfl rfl) ?_
    focus (rw [keptB, show (kind.toList == createB.toList) = false from beq_f hc7, Bool.false_or]; done)
  · refine UCall (n := 14) (H0 := H) (objs := []) Tryz.func23 (by kernel_rfl) rfl (by rw [Tryz.ntmps23]; rfl) .nil ?_
    refine S.sq (S.rg ?_)
    refine S.qu (Z.as rfl) ?_
    refine US.nil (UQ.then (S.sq (S.rg ?_)))
    refine S.qu (Z.mv rfl) ?_
    refine S.qu (Z.bs rfl rfl rfl) ?_
    refine S.qu (Z.mv rfl) ?_
    refine S.tE 7 (fun hc7 => ?_) (fun hc7 => ?_)
    refine S.qu (Z.of) ?_
    refine S.qu (Z.of) ?_
    refine S.qu (Z.of) ?_
    refine S.qu (Z.of) ?_
    refine S.qu (Z.of) ?_
    refine S.qu (Z.pick rfl rfl) ?_
    refine S.qu (Z.as rfl) ?_
    refine US.nil (UQ.then (UW.ret ?_))
    refine S.rtR (fun _ => res_tmp rfl rfl) ?_
    focus (rw [keptB, show (kind.toList == createB.toList) = true from beq_t hc7, Bool.true_or]; done)
    refine S.dd (D.on (D.cne rfl rfl (fun hd => keptM_spec _ (hG.ext hd)) ?_))
    rintro _ _ ⟨p8, rfl, rfl⟩
    refine S.qu (Z.on (Z.mv rfl)) ?_
    refine S.qu (Z.on (Z.lkm (u := .v (.slice none 0 0)) 0 mp57 z23 rfl rfl rfl (congrArg (fun o => Option.getD o (.v (.slice none 0 0))) hk))) ?_
    refine US.slot 10 rfl (Turns.nil _) ?_
    refine S.qu (Z.on (Z.mv rfl)) ?_
    refine S.qu (Z.on (Z.call rfl rfl (fun H => contains_spec [] key (by decide) H))) ?_
    refine S.qu (Z.pick rfl rfl) ?_
    refine S.qu (Z.as rfl) ?_
    refine US.nil (UQ.then (UW.ret ?_))
    refine S.rtR (fun _ => res_tmp rfl rfl) ?_
    focus ((rw [keptB, show (kind.toList == createB.toList) = false from beq_f hc7, Bool.false_or, hk2]); done)
theorem keptB_create {kind : ByteArray} (h : kind.toList = createB.toList) (key : ByteArray) : keptB kind key = true := by rw [keptB, beq_t h, Bool.true_or]
theorem keptB_other {kind : ByteArray} (h : ¬ kind.toList = createB.toList) (key : ByteArray) : keptB kind key = hasB (keptL kind) key := by rw [keptB, beq_f h, Bool.false_or]
end Go.Proofs.YtgmfgmbgmjbdhaaGreatDoor
end
