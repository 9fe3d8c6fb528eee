/- What stands behind a row of bytes; rows put together. -/
import Derived.Test.YtgmfgmbgmjbdhaaGreatDoorKx28
namespace Go.Proofs.YtgmfgmbgmjbdhaaGreatDoor
open Go Go.RowKit Go.Eng
set_option linter.unusedSimpArgs false
set_option linter.unusedVariables false
set_option maxRecDepth 100000
set_option maxHeartbeats 4000000
theorem encY_snoc (b : List Int) (x : Int) : encY (b ++ [x]) = encY b ++ [[.v (.int .u8 x)]] := by unfold encY; rw [List.map_append]; rfl
theorem encY_app (a b : List Int) : encY (a ++ b) = encY a ++ encY b := by unfold encY; rw [List.map_append]
theorem encY_set (b : List Int) (j : Nat) (x : Int) : (encY b).set j [.v (.int .u8 x)] = encY (b.set j x) := by unfold encY; rw [List.map_set]
theorem encY_rep (m : Nat) : List.replicate m [.v (.int .u8 0)] = encY (List.replicate m 0) := by unfold encY; rw [List.map_replicate]
theorem encY_take (b : List Int) (j : Nat) : (encY b).take j = encY (b.take j) := by unfold encY; rw [List.map_take]
theorem encY_drop (b : List Int) (j : Nat) : (encY b).drop j = encY (b.drop j) := by unfold encY; rw [List.map_drop]
def zN (n : Nat) : Nat := (119 - n % 64) % 64
def tb (v : Int) (i : Nat) : Int := IntKind.u8.wrap (v.fdiv (2 ^ min (8 * i) 64))
def be8 (v : Int) : List Int := [tb v 7, tb v 6, tb v 5, tb v 4, tb v 3, tb v 2, tb v 1, tb v 0]
def tailB (n : Nat) : List Int := 128 :: (List.replicate (zN n) 0 ++ be8 ((n * 8 : Nat) : Int))
theorem tailB_len (n : Nat) : (tailB n).length = 9 + zN n := by unfold tailB be8; simp; omega
theorem tb_bd (v : Int) (i : Nat) : 0 ≤ tb v i ∧ tb v i < 256 := by unfold tb; rw [IntKind.wrap_u8]; omega
theorem tailB_ok (n : Nat) : ByteL (tailB n) := by
  intro c hc
  unfold tailB at hc
  rcases List.mem_cons.1 hc with rfl | hc
  · decide
  · rcases List.mem_append.1 hc with hc | hc
    · rw [List.eq_of_mem_replicate hc]; decide
    · unfold be8 at hc
      simp only [List.mem_cons, List.mem_nil_iff, or_false] at hc
      rcases hc with rfl | rfl | rfl | rfl | rfl | rfl | rfl | rfl <;> exact tb_bd _ _
theorem be8_drop (v : Int) : ∀ i : Fin 8, (be8 v).drop (7 - i.val) = tb v i.val :: (be8 v).drop (8 - i.val) := by
  rintro ⟨i, hi⟩
  match i, hi with
  | 0, _ => rfl
  | 1, _ => rfl
  | 2, _ => rfl
  | 3, _ => rfl
  | 4, _ => rfl
  | 5, _ => rfl
  | 6, _ => rfl
  | 7, _ => rfl
theorem be8_take (v : Int) : ∀ i : Fin 8, (be8 v).take (i.val + 1) = (be8 v).take i.val ++ [tb v (7 - i.val)] := by
  rintro ⟨i, hi⟩
  match i, hi with
  | 0, _ => rfl
  | 1, _ => rfl
  | 2, _ => rfl
  | 3, _ => rfl
  | 4, _ => rfl
  | 5, _ => rfl
  | 6, _ => rfl
  | 7, _ => rfl
def tailU (n i : Nat) : List Int := 128 :: (List.replicate (zN n + (8 - i)) 0 ++ (be8 ((n * 8 : Nat) : Int)).drop (8 - i))
theorem tailU_set (n i : Nat) (hi : i < 8) : (tailU n i).set (zN n + 8 - i) (tb ((n * 8 : Nat) : Int) i) = tailU n (i + 1) := by
  unfold tailU
  have hd := be8_drop ((n * 8 : Nat) : Int) ⟨i, hi⟩
  simp only at hd
  rw [show zN n + 8 - i = (zN n + (7 - i)) + 1 from by omega, List.set_cons_succ, show 8 - (i + 1) = 7 - i from by omega, hd]
  congr 1
  rw [List.set_append_left _ _ (by rw [List.length_replicate]; omega)]
  have e : (List.replicate (zN n + (8 - i)) (0 : Int)).set (zN n + (7 - i)) (tb ((n * 8 : Nat) : Int) i) = List.replicate (zN n + (7 - i)) 0 ++ [tb ((n * 8 : Nat) : Int) i] := by
    rw [show zN n + (8 - i) = (zN n + (7 - i)) + 1 from by omega, List.replicate_succ', List.set_append_right _ _ (by rw [List.length_replicate]; omega), List.length_replicate, Nat.sub_self]
    rfl
  rw [e, List.append_assoc]
  rfl
theorem tailU_len (n i : Nat) (hi : i ≤ 8) : (tailU n i).length = 9 + zN n := by unfold tailU be8; simp; omega
theorem tailU_0 (n : Nat) : tailU n 0 = 128 :: List.replicate (zN n + 8) 0 := by unfold tailU be8; simp
theorem D.mkz {n : Nat} {ops : Array Oper} {H0 : Hp} {K : AV → List (Nat × Ob) → Prop} {l : List (Nat × AV)} {objs : List (Nat × Ob)} {x y : Operand} {dst : Option Nat} {ty : TypeId} {ps : String} {af : Array Edge} {ki kj : IntKind} (m : Nat) (hx : evO l x = some (.v (.int ki (m : Int)))) (hy : evO l y = some (.v (.int kj (m : Int)))) (hb : m ≤ 140737488355328) (hk : ∀ id, K (.own id 0 m 1) ((id, .row 5 1 (encY (List.replicate m 0))) :: objs)) : DS Tryz.prog n ops H0 ⟨dst, .makeSlice 22 x y, ty, ps, af, none⟩ l objs K :=
  D.mks m row22 hx hy z5 (by omega) (fun id => by rw [encY_rep]; exact hk id)
theorem D.azz {n tn : Nat} {ops : Array Oper} {H0 : Hp} {K : AV → List (Nat × Ob) → Prop} {l : List (Nat × AV)} {objs : List (Nat × Ob)} {x y : Operand} {dst : Option Nat} {ty : TypeId} {ps : String} {af : Array Edge} {kq kn : IntKind} (m : Nat) (htn : Tryz.prog.underlying tn = some (.int kn)) (hx : evO l x = some (.v (.slice none 0 0))) (hy : evO l y = some (.v (.int kq (m : Int)))) (h0 : 0 < m) (hb : m ≤ 140737488355328) (hk : ∀ id, K (.own id 0 m 1) ((id, .row 5 1 (encY (List.replicate m 0))) :: objs)) : DS Tryz.prog n ops H0 ⟨dst, .call { callee := .builtin .append, args := #[x, y], argTypes := #[22, tn] }, ty, ps, af, none⟩ l objs K :=
  D.azn m row22 htn hx hy h0 z5 (by omega) (fun id => by rw [encY_rep]; exact hk id)
theorem tail_spec (n : Nat) (hn : n ≤ 100000000000) (H : Hp) : ACall Tryz.prog 123 [.v (.int .u64 (n : Int))] H (IsR H (.sl (encY (tailB n)))) := by
  have hz : zN n = (119 - n % 64) % 64 := rfl
  have hzl : zN n < 64 := by omega
  have e10 : ((119 : Int) - ((n % 64 : Nat) : Int)).tmod 64 = ((zN n : Nat) : Int) := by
    rw [Int.tmod_eq_emod_of_nonneg (by omega), hz]; omega
  have h0 : (encY (List.replicate (1 + zN n + 8) 0)).set 0 [.v (.int .u8 128)] = encY (tailU n 0) := by
    rw [encY_set, tailU_0, show 1 + zN n + 8 = (zN n + 8) + 1 from by omega, List.replicate_succ, List.set_cons_zero]
  have hrs := encY_sz (List.replicate (1 + zN n + 8) 0)
  have hrl := encY_len (List.replicate (1 + zN n + 8) 0)
  rw [List.length_replicate] at hrl
  refine UCall (n := 35) (H0 := H) (objs := []) Tryz.func123 (by kernel_rfl) rfl (by rw [Tryz.ntmps123]; rfl) .nil ?_
  refine S.sq (S.rg ?_)
  refine S.qu (Z.as rfl) ?_
  refine US.nil (UQ.then (S.sq (S.rg ?_)))
  refine S.qu (Z.mv rfl) ?_
  refine S.qu (Z.eq (u' := .v (.int .u64 ((n % 64 : Nat) : Int))) (Z.bi rfl rfl rfl) rfl) ?_
  refine S.qu (Z.cv (r := ((n % 64 : Nat) : Int)) Tryz.underlying3 rfl (IntWalk.i64_in _ (by omega)) (by rw [Tryz.underlying122]; rfl)) ?_
  refine S.qu (Z.sub rfl rfl (IntWalk.i64_in _ (by omega))) ?_
  refine S.qu (Z.eq (u' := .v (.int .i64 ((zN n : Nat) : Int))) (Z.bi rfl rfl rfl) (by rw [e10])) ?_
  refine S.qu (Z.as rfl) ?_
  refine US.nil (UQ.then (S.sq (S.rg ?_)))
  refine S.qu (Z.mv rfl) ?_
  refine S.qu (Z.add (r := ((1 + zN n : Nat) : Int)) rfl rfl (by rw [IntWalk.i64_in _ (by omega)]; omega)) ?_
  refine S.qu (Z.add (r := ((1 + zN n + 8 : Nat) : Int)) rfl rfl (by rw [IntWalk.i64_in _ (by omega)]; omega)) ?_
  refine S.dd (D.mkz (1 + zN n + 8) rfl rfl (by omega) (fun p14 => ?_))
  refine S.qu (Z.as rfl) ?_
  refine US.nil (UQ.then (S.sq (S.rg ?_)))
  refine S.qu (Z.mv rfl) ?_
  refine S.qu (Z.io sl22 rfl rfl (by omega) (by omega)) ?_
  refine S.s (D.sre 0 (m := 0) ty5 rfl rfl rfl (by omega) rfl rfl rfl rfl hrs h0 (fun _ => ?_))
  refine US.nil (UQ.then (S.sq (S.sq (S.rg ?_))))
  refine S.qu (Z.mv rfl) ?_
  refine US.nil (UQ.then (UW.block ?_))
  refine S.loop (fun i : Nat => [(17, .v (.int .i64 (i : Int))), (4, .own p14 0 (1 + zN n + 8) 1), (0, .v (.int .u64 (n : Int)))]) (fun i => [(p14, .row 5 1 (encY (tailU n i)))]) (fun i => i ≤ 8) (fun i => 8 - i) 0 (Nat.zero_le _) ⟨rfl, rfl, rfl, trivial⟩ (.refl _) ?_
  intro i hi
  have hus := encY_sz (tailU n i)
  have hul := encY_len (tailU n i)
  rw [tailU_len n i hi] at hul
  by_cases hlt : i < 8
  · have hset : (encY (tailU n i)).set (zN n + 8 - i) [.v (.int .u8 (tb ((n * 8 : Nat) : Int) i))] = encY (tailU n (i + 1)) := by rw [encY_set, tailU_set n i hlt]
    refine S.sq (S.rg ?_)
    refine S.qu (Z.bi rfl rfl rfl) ?_
    refine US.nil (UQ.then (S.sq ?_))
    refine S.cT rfl (decide_eq_true (by omega)) ?_
    refine UW.skip (UQ.then (S.sq (UW.block (S.sq (S.rg ?_)))))
    refine S.qu (Z.mv rfl) ?_
    refine S.qu (Z.as rfl) ?_
    refine US.nil (UQ.then (S.rg ?_))
    refine S.qu (Z.mv rfl) ?_
    refine S.qu (Z.mv rfl) ?_
    refine S.qu (Z.lno sl22 rfl) ?_
    refine S.qu (Z.sub rfl rfl (IntWalk.i64_in _ (by omega))) ?_
    refine S.qu (Z.mv rfl) ?_
    refine S.qu (Z.sub rfl rfl (IntWalk.i64_in _ (by omega))) ?_
    refine S.qu (Z.mv rfl) ?_
    refine S.qu (Z.mul (r := ((n * 8 : Nat) : Int)) rfl rfl (IntWalk.u64_in _ (by omega))) ?_
    refine S.qu (Z.mv rfl) ?_
    refine S.qu (Z.mul (r := ((8 * i : Nat) : Int)) rfl rfl (IntWalk.i64_in _ (by omega))) ?_
    refine S.qu (Z.shr rfl rfl (by omega) rfl) ?_
    refine S.qu (Z.cv (r := tb ((n * 8 : Nat) : Int) i) Tryz.underlying5 rfl rfl (by rw [Tryz.underlying122]; rfl)) ?_
    refine S.qu (Z.io sl22 rfl rfl (by omega) (by omega)) ?_
    refine S.s (D.sre 0 (m := zN n + 8 - i) ty5 rfl rfl (by omega) (by omega) rfl rfl rfl rfl hus hset (fun _ => ?_))
    refine US.nil (UQ.blockN (UQ.then (S.rg ?_)))
    refine S.qu (Z.add (r := ((i + 1 : Nat) : Int)) rfl rfl (IntWalk.i64_in _ (by omega))) ?_
    refine S.qu (Z.mv rfl) ?_
    refine US.nil ?_
    refine S.back _ ⟨rfl, rfl, rfl, trivial⟩ (.refl _) (by omega) (by omega)
  · have hi8 : i = 8 := by omega
    subst hi8
    refine S.sq (S.rg ?_)
    refine S.qu (Z.bi rfl rfl rfl) ?_
    refine US.nil (UQ.then (S.sq ?_))
    refine S.cF rfl (decide_eq_false (by omega)) ?_
    refine UW.exit (UQ.pass (UQ.pass (UQ.here (UQ.then (S.sq (S.rg ?_))))))
    refine S.qu (Z.mv rfl) ?_
    refine S.qu (Z.as rfl) ?_
    refine US.freeze' 2 0 (rs := encY (tailB n)) rfl rfl (by omega) (by rw [List.drop_zero]; exact List.take_of_length_le (by omega)) ?_
    refine US.nil (UQ.then (UW.ret ?_))
    refine S.rtR (fun _ => res_tmp rfl rfl) ?_
    rfl
theorem tailK (n k : Nat) : encY (128 :: List.replicate k 0) ++ [[.v (.int .u8 0)]] = encY (128 :: List.replicate (k + 1) 0) := by
  rw [← encY_snoc, List.cons_append, ← List.replicate_succ']
theorem tailR_spec (n : Nat) (hn : n ≤ 100000000000) (H : Hp) : ACall Tryz.prog 125 [.v (.int .u64 (n : Int))] H (IsR H (.sl (encY (tailB n)))) := by
  have hz : zN n = (119 - n % 64) % 64 := rfl
  have hzl : zN n < 64 := by omega
  refine UCall (n := 34) (H0 := H) (objs := []) Tryz.func125 (by kernel_rfl) rfl (by rw [Tryz.ntmps125]; rfl) .nil ?_
  refine S.sq (S.rg ?_)
  refine S.qu (Z.as rfl) ?_
  refine US.nil (UQ.then (S.sq (S.rg ?_)))
  refine S.dd (D.lit row22 rfl rfl (lit_ok rfl) (fun p6 => ?_))
  refine S.qu (Z.as rfl) ?_
  refine US.nil (UQ.then (S.sq (UW.block ?_)))
  refine S.loop (fun j : Nat × Nat => [(3, .own j.2 0 (j.1 + 1) 1), (0, .v (.int .u64 (n : Int)))]) (fun j => [(j.2, .row 5 1 (encY (128 :: List.replicate j.1 0)))]) (fun j => j.1 ≤ zN n) (fun j => zN n - j.1) (0, p6) (Nat.zero_le _) ⟨rfl, rfl, trivial⟩ (.refl _) ?_
  rintro ⟨k, r⟩ hk
  dsimp only at hk ⊢
  have hrl := encY_len (128 :: List.replicate k 0)
  rw [List.length_cons, List.length_replicate] at hrl
  have hap : (encY (128 :: List.replicate k 0)).take (k + 1) ++ [[.v (.int .u8 0)]] = encY (128 :: List.replicate (k + 1) 0) := by rw [List.take_of_length_le (by omega), tailK n k]
  by_cases hlt : k < zN n
  · refine S.sq (S.sq (S.rg ?_))
    refine S.qu (Z.mv rfl) ?_
    refine S.qu (Z.eq (u' := .v (.int .u64 ((n % 64 : Nat) : Int))) (Z.bi rfl rfl rfl) rfl) ?_
    refine S.qu (Z.mv rfl) ?_
    refine S.qu (Z.lno sl22 rfl) ?_
    refine S.qu (Z.cv (r := ((k + 1 : Nat) : Int)) Tryz.underlying122 rfl (IntWalk.u64_in _ (by omega)) (by rw [Tryz.underlying3]; rfl)) ?_
    refine S.qu (Z.add (r := ((n % 64 + (k + 1) : Nat) : Int)) rfl rfl (by rw [IntWalk.u64_in _ (by omega)]; omega)) ?_
    refine S.qu (Z.eq (u' := .v (.int .u64 (((n % 64 + (k + 1)) % 64 : Nat) : Int))) (Z.bi rfl rfl rfl) rfl) ?_
    refine S.qu (Z.bi rfl rfl rfl) ?_
    refine US.nil (UQ.then ?_)
    refine S.cT rfl (bne_t (by omega)) ?_
    refine UW.skip (UQ.then (UW.block (S.rg ?_)))
    refine S.qu (Z.mv rfl) ?_
    refine S.qu (Z.bl row22 rfl rfl (lit_ok rfl)) ?_
    refine S.dd (D.ap 0 row22 rfl rfl (by omega) rfl (.sl (lit_sz rfl)) (by first | omega | (simp; omega)) hap (fun p17 => ?_))
    refine S.qu (Z.as rfl) ?_
    refine US.nil (UQ.blockN ?_)
    refine S.back (k + 1, p17) ⟨rfl, rfl, trivial⟩ (.refl _) (by omega) (by omega)
  · have hkz : k = zN n := by omega
    subst hkz
    refine S.sq (S.sq (S.rg ?_))
    refine S.qu (Z.mv rfl) ?_
    refine S.qu (Z.eq (u' := .v (.int .u64 ((n % 64 : Nat) : Int))) (Z.bi rfl rfl rfl) rfl) ?_
    refine S.qu (Z.mv rfl) ?_
    refine S.qu (Z.lno sl22 rfl) ?_
    refine S.qu (Z.cv (r := ((zN n + 1 : Nat) : Int)) Tryz.underlying122 rfl (IntWalk.u64_in _ (by omega)) (by rw [Tryz.underlying3]; rfl)) ?_
    refine S.qu (Z.add (r := ((n % 64 + (zN n + 1) : Nat) : Int)) rfl rfl (by rw [IntWalk.u64_in _ (by omega)]; omega)) ?_
    refine S.qu (Z.eq (u' := .v (.int .u64 (((n % 64 + (zN n + 1)) % 64 : Nat) : Int))) (Z.bi rfl rfl rfl) rfl) ?_
    refine S.qu (Z.bi rfl rfl rfl) ?_
    refine US.nil (UQ.then ?_)
    refine S.cF rfl (bne_f (by omega)) ?_
    refine UW.exit (UQ.pass (UQ.pass (UQ.here (UQ.then (S.sq (S.rg ?_))))))
    refine S.qu (Z.mv rfl) ?_
    refine S.qu (Z.mul (r := ((n * 8 : Nat) : Int)) rfl rfl (IntWalk.u64_in _ (by omega))) ?_
    refine S.qu (Z.as rfl) ?_
    refine US.nil (UQ.then (S.sq (S.sq (S.rg ?_))))
    refine S.qu (Z.as rfl) ?_
    refine US.nil (UQ.then (UW.block ?_))
    refine S.loop (fun j : Nat × Nat => [(5, .v (.int .i64 (7 - (j.1 : Int)))), (4, .v (.int .u64 ((n * 8 : Nat) : Int))), (3, .own j.2 0 (zN n + 1 + j.1) 1)]) (fun j => [(j.2, .row 5 1 (encY (128 :: (List.replicate (zN n) 0 ++ (be8 ((n * 8 : Nat) : Int)).take j.1))))]) (fun j => j.1 ≤ 8) (fun j => 8 - j.1) (0, r) (Nat.zero_le _) ⟨rfl, rfl, rfl, trivial⟩ (by rw [List.take_zero, List.append_nil]; exact .refl _) ?_
    rintro ⟨i, r2⟩ hi
    dsimp only at hi ⊢
    have hrl := encY_len (128 :: (List.replicate (zN n) 0 ++ (be8 ((n * 8 : Nat) : Int)).take i))
    rw [List.length_cons, List.length_append, List.length_replicate, List.length_take, show (be8 ((n * 8 : Nat) : Int)).length = 8 from rfl] at hrl
    by_cases hlt8 : i < 8
    · have hap : (encY (128 :: (List.replicate (zN n) 0 ++ (be8 ((n * 8 : Nat) : Int)).take i))).take (zN n + 1 + i) ++ [[.v (.int .u8 (tb ((n * 8 : Nat) : Int) (7 - i)))]] = encY (128 :: (List.replicate (zN n) 0 ++ (be8 ((n * 8 : Nat) : Int)).take (i + 1))) := by
        rw [List.take_of_length_le (by omega), ← encY_snoc, List.cons_append, List.append_assoc, be8_take _ ⟨i, hlt8⟩]
      refine S.sq (S.sq (S.rg ?_))
      refine S.qu (Z.mv rfl) ?_
      refine S.qu (Z.bi rfl rfl rfl) ?_
      refine US.nil (UQ.then ?_)
      refine S.cT rfl (decide_eq_true (by omega)) ?_
      refine UW.skip (UQ.then (S.sq (UW.block (S.rg ?_))))
      refine S.qu (Z.mv rfl) ?_
      refine S.qu (Z.mv rfl) ?_
      refine S.qu (Z.mv rfl) ?_
      refine S.qu (Z.mul (r := ((8 * (7 - i) : Nat) : Int)) rfl rfl (by rw [IntWalk.i64_in _ (by omega)]; omega)) ?_
      refine S.qu (Z.cv (r := ((8 * (7 - i) : Nat) : Int)) Tryz.underlying86 rfl (IntWalk.u64_in _ (by omega)) (by rw [Tryz.underlying3]; rfl)) ?_
      refine S.qu (Z.shr rfl rfl (by omega) rfl) ?_
      refine S.qu (Z.cv (r := tb ((n * 8 : Nat) : Int) (7 - i)) Tryz.underlying5 rfl rfl (by rw [Tryz.underlying122]; rfl)) ?_
      refine S.qu (Z.bl row22 rfl rfl (lit_ok rfl)) ?_
      refine S.dd (D.ap 0 row22 rfl rfl (by omega) rfl (.sl (lit_sz rfl)) (by first | omega | (simp; omega)) hap (fun p32 => ?_))
      refine S.qu (Z.as rfl) ?_
      refine US.nil (UQ.blockN (UQ.then (S.rg ?_)))
      refine S.qu (Z.mv rfl) ?_
      refine S.qu (Z.sub (r := 7 - ((i + 1 : Nat) : Int)) rfl rfl (by rw [IntWalk.i64_in _ (by omega)]; omega)) ?_
      refine S.qu (Z.as rfl) ?_
      refine US.nil ?_
      refine S.back (i + 1, p32) ⟨rfl, rfl, rfl, trivial⟩ (.refl _) (by omega) (by omega)
    · have hi8 : i = 8 := by omega
      subst hi8
      refine S.sq (S.sq (S.rg ?_))
      refine S.qu (Z.mv rfl) ?_
      refine S.qu (Z.bi rfl rfl rfl) ?_
      refine US.nil (UQ.then ?_)
      refine S.cF rfl (decide_eq_false (by omega)) ?_
      refine UW.exit (UQ.pass (UQ.pass (UQ.here (UQ.then (S.sq (S.rg ?_))))))
      refine S.qu (Z.mv rfl) ?_
      refine S.qu (Z.as rfl) ?_
      refine US.freeze' 2 0 (rs := encY (tailB n)) rfl rfl (by omega) (by rw [List.drop_zero]; exact List.take_of_length_le (by omega)) ?_
      refine US.nil (UQ.then (UW.ret ?_))
      refine S.rtR (fun _ => res_tmp rfl rfl) ?_
      rfl
def hsrC (h : W8) (left : List Int) (n : Nat) : List AV := encW h.l ++ [.sl (encY left), .v (.int .u64 (n : Int))]
def W0 : W8 := ⟨0x6a09e667, 0xbb67ae85, 0x3c6ef372, 0xa54ff53a, 0x510e527f, 0x9b05688c, 0x1f83d9ab, 0x5be0cd19⟩
theorem new_spec (H : Hp) : ACall Tryz.prog 86 [] H (fun u H' => ∃ news, Dist H news ∧ H' = extH H news ∧ ∃ p, u = .ptr p 0 ∧ news = [(p, .box 124 (hsrC W0 [] 0))]) := by
  refine UCall (n := 4) (H0 := H) (objs := []) Tryz.func86 (by kernel_rfl) rfl (by rw [Tryz.ntmps86]; rfl) .nil ?_
  refine S.sq (S.rg ?_)
  refine S.qu (Z.as rfl) ?_
  refine US.nil (UQ.then (S.sq (S.rg ?_)))
  refine S.qu (Z.bar ar121 z121 rfl rfl rfl rfl rfl) ?_
  refine S.qu (Z.bd [0] bt124 rfl rfl rfl rfl rfl rfl) ?_
  refine S.dd (D.box rfl rfl rfl (fun p3 => ?_))
  refine S.qu (Z.as rfl) ?_
  refine US.nil (UQ.then (UW.ret ?_))
  exact retR [_] (fun _ => res_tmp rfl rfl) (.refl _) fun hd => ⟨_, hd, rfl, p3, rfl, rfl⟩
def GrowR (u : AV) (news : List (Nat × Ob)) : Prop := ∃ p m, u = .own p 0 0 1 ∧ news = [(p, .row 5 1 (encY (List.replicate m 0)))]
theorem grow_spec (m : Nat) (hm : m ≤ 140737488355328) (H : Hp) : ACall Tryz.prog 140 [.v (.slice none 0 0), .v (.int .i64 (m : Int))] H (fun u H' => ∃ news, Dist H news ∧ H' = extH H news ∧ GrowR u news) := by
  by_cases h0 : 0 < m
  · refine UCall (n := 27) (H0 := H) (objs := []) Tryz.func140 (by kernel_rfl) rfl (by rw [Tryz.ntmps140]; rfl) .nil ?_
    refine S.sq (S.rg ?_)
    refine S.qu (Z.as rfl) ?_
    refine US.nil (UQ.then (S.sq (S.sq (S.rg ?_))))
    refine S.qu (Z.mv rfl) ?_
    refine S.qu (Z.bi rfl rfl rfl) ?_
    refine US.nil (UQ.then ?_)
    refine S.cF rfl (decide_eq_false (by omega)) ?_
    refine UW.skip (UQ.then (S.sq (S.sq (S.rg ?_))))
    refine S.qu (Z.mv rfl) ?_
    refine S.qu (Z.mv rfl) ?_
    refine S.qu (Z.cpn sl22 rfl) ?_
    refine S.qu (Z.mv rfl) ?_
    refine S.qu (Z.lnn sl22 rfl) ?_
    refine S.qu (Z.sub (r := 0) rfl rfl rfl) ?_
    refine S.qu (Z.sub (r := (m : Int)) rfl rfl (by rw [Int.sub_zero]; exact IntWalk.i64_in _ (by omega))) ?_
    refine S.qu (Z.as rfl) ?_
    refine US.nil (UQ.then (S.sq (S.rg ?_)))
    refine S.qu (Z.mv rfl) ?_
    refine S.qu (Z.bi rfl rfl rfl) ?_
    refine US.nil (UQ.then ?_)
    refine S.cT rfl (decide_eq_true (by omega)) ?_
    refine S.rg ?_
    refine S.qu (Z.mv rfl) ?_
    refine S.qu (Z.mv rfl) ?_
    refine S.qu (Z.cpn sl22 rfl) ?_
    refine S.qu (Z.sln sl22 rfl rfl) ?_
    refine S.qu (Z.mv rfl) ?_
    refine S.dd (D.azz m Tryz.underlying3 rfl rfl h0 hm (fun p22 => ?_))
    refine S.qu (Z.mv rfl) ?_
    refine S.qu (Z.lnn sl22 rfl) ?_
    refine S.qu (Z.slo (m := 0) (m' := 0) sl22 rfl (.hi rfl) (by omega) (by omega)) ?_
    refine S.qu (Z.as rfl) ?_
    refine US.nil (UQ.then (S.sq (S.rg ?_)))
    refine S.qu (Z.mv rfl) ?_
    refine S.qu (Z.as rfl) ?_
    refine US.nil (UQ.then (UW.ret ?_))
    exact retR [_] (fun _ => res_tmp rfl rfl) (.refl _) fun hd => ⟨_, hd, rfl, p22, m, rfl, rfl⟩
  · have hm0 : m = 0 := by omega
    subst hm0
    refine UCall (n := 27) (H0 := H) (objs := []) Tryz.func140 (by kernel_rfl) rfl (by rw [Tryz.ntmps140]; rfl) .nil ?_
    refine S.sq (S.rg ?_)
    refine S.qu (Z.as rfl) ?_
    refine US.nil (UQ.then (S.sq (S.sq (S.rg ?_))))
    refine S.qu (Z.mv rfl) ?_
    refine S.qu (Z.bi rfl rfl rfl) ?_
    refine US.nil (UQ.then ?_)
    refine S.cF rfl (decide_eq_false (by omega)) ?_
    refine UW.skip (UQ.then (S.sq (S.sq (S.rg ?_))))
    refine S.qu (Z.mv rfl) ?_
    refine S.qu (Z.mv rfl) ?_
    refine S.qu (Z.cpn sl22 rfl) ?_
    refine S.qu (Z.mv rfl) ?_
    refine S.qu (Z.lnn sl22 rfl) ?_
    refine S.qu (Z.sub (r := 0) rfl rfl rfl) ?_
    refine S.qu (Z.sub (r := 0) rfl rfl rfl) ?_
    refine S.qu (Z.as rfl) ?_
    refine US.nil (UQ.then (S.sq (S.rg ?_)))
    refine S.qu (Z.mv rfl) ?_
    refine S.qu (Z.bi rfl rfl rfl) ?_
    refine US.nil (UQ.then ?_)
    refine S.cF rfl (decide_eq_false (by omega)) ?_
    refine UW.skip (UQ.then (S.sq (S.rg ?_)))
    refine S.qu (Z.mv rfl) ?_
    refine US.nilOwn 26 5 1 (by decide) rfl (fun p26 => ?_)
    refine S.qu (Z.as rfl) ?_
    refine US.nil (UQ.then (UW.ret ?_))
    exact retR [_] (fun _ => res_tmp rfl rfl) (.refl _) fun hd => ⟨_, hd, rfl, p26, 0, rfl, rfl⟩
def encP (ps : List (List Int)) : List (List AV) := ps.map fun p => [.sl (encY p)]
theorem encP_get (ps : List (List Int)) (j : Nat) (h : j < ps.length) : (encP ps)[j]? = some [.sl (encY (ps.getD j []))] := by
  unfold encP
  rw [List.getElem?_map, List.getElem?_eq_getElem h, List.getD_eq_getElem?_getD, List.getElem?_eq_getElem h]; rfl
theorem flat_snoc (ps : List (List Int)) (j : Nat) (h : j < ps.length) : (ps.take (j + 1)).flatten = (ps.take j).flatten ++ ps.getD j [] := by
  rw [List.take_add_one, List.getElem?_eq_getElem h, List.flatten_append, List.getD_eq_getElem?_getD, List.getElem?_eq_getElem h]; simp
theorem flat_le (ps : List (List Int)) (j : Nat) : (ps.take j).flatten.length ≤ ps.flatten.length := by
  have h : ps.flatten = (ps.take j).flatten ++ (ps.drop j).flatten := by rw [← List.flatten_append, List.take_append_drop]
  rw [h, List.length_append]; omega
theorem concat_spec (ps : List (List Int)) (hl : ps.length ≤ 1000) (hs : ps.flatten.length ≤ 100000000000) (H : Hp) : ACall Tryz.prog 120 [.sl (encP ps)] H (IsR H (.sl (encY ps.flatten))) := by
  have hpl : (encP ps).length = ps.length := List.length_map ..
  refine UCall (n := 36) (H0 := H) (objs := []) Tryz.func120 (by kernel_rfl) rfl (by rw [Tryz.ntmps120]; rfl) .nil ?_
  refine S.sq (S.rg ?_)
  refine S.qu (Z.as rfl) ?_
  refine US.nil (UQ.then (S.sq (S.rg ?_)))
  refine S.qu (Z.as rfl) ?_
  refine US.nil (UQ.then (S.sq (S.sq (S.rg ?_))))
  refine S.qu (Z.mv rfl) ?_
  refine S.qu (Z.lns sl149 rfl) ?_
  refine S.qu (Z.mv rfl) ?_
  refine US.nil (UQ.then (UW.block ?_))
  refine S.loop (fun j : Nat => [(11, .v (.int .i64 (j : Int))), (10, .v (.int .i64 ((encP ps).length : Int))), (9, .sl (encP ps)), (3, .v (.int .i64 ((ps.take j).flatten.length : Int))), (0, .sl (encP ps))]) (fun _ => []) (fun j => j ≤ ps.length) (fun j => ps.length - j) 0 (Nat.zero_le _) ⟨rfl, rfl, rfl, rfl, rfl, trivial⟩ (.refl _) ?_
  intro j hj
  have hfl := flat_le ps j
  by_cases hlt : j < ps.length
  · have hg := encP_get ps j hlt
    have hsn := flat_snoc ps j hlt
    have hfl1 := flat_le ps (j + 1)
    have hsl := congrArg List.length hsn
    rw [List.length_append] at hsl
    have hbl := encY_len (ps.getD j [])
    refine S.sq (S.rg ?_)
    refine S.qu (Z.bi rfl rfl rfl) ?_
    refine US.nil (UQ.then (S.sq ?_))
    refine S.cT rfl (decide_eq_true (by omega)) ?_
    refine UW.skip (UQ.then (S.sq (UW.block (S.sq (S.rg ?_)))))
    refine S.qu (Z.ia sl149 rfl rfl (by omega) hg (by rfl)) ?_
    refine S.qu (Z.lpc ty22 rfl) ?_
    refine S.qu (Z.as rfl) ?_
    refine US.nil (UQ.then (S.sq (S.rg ?_)))
    refine S.qu (Z.mv rfl) ?_
    refine S.qu (Z.mv rfl) ?_
    refine S.qu (Z.lns sl22 rfl) ?_
    refine S.qu (Z.add (r := (((ps.take (j + 1)).flatten.length : Nat) : Int)) rfl rfl (by rw [IntWalk.i64_in _ (by omega)]; omega)) ?_
    refine S.qu (Z.as rfl) ?_
    refine US.nil (UQ.then (S.sq (S.rg ?_)))
    refine S.qu (Z.mv rfl) ?_
    refine S.qu (Z.bi rfl rfl rfl) ?_
    refine US.nil (UQ.then ?_)
    refine S.cF rfl (decide_eq_false (by omega)) ?_
    refine UW.skip (UQ.blockN (UQ.then (S.rg ?_)))
    refine S.qu (Z.add (r := ((j + 1 : Nat) : Int)) rfl rfl (IntWalk.i64_in _ (by omega))) ?_
    refine S.qu (Z.mv rfl) ?_
    refine US.nil ?_
    refine S.back _ ⟨rfl, rfl, rfl, rfl, rfl, trivial⟩ (.refl _) (by omega) (by omega)
  · have hjl : j = ps.length := by omega
    subst hjl
    rw [List.take_length]
    refine S.sq (S.rg ?_)
    refine S.qu (Z.bi rfl rfl rfl) ?_
    refine US.nil (UQ.then (S.sq ?_))
    refine S.cF rfl (decide_eq_false (by omega)) ?_
    refine UW.exit (UQ.pass (UQ.pass (UQ.here (UQ.then (S.sq (S.rg ?_))))))
    refine S.qu (Z.mv rfl) ?_
    refine S.dd (D.cn rfl rfl (fun _ => grow_spec ps.flatten.length (by omega) _) ?_)
    rintro _ _ ⟨p24, m24, rfl, rfl⟩
    refine S.qu (Z.as rfl) ?_
    refine US.nil (UQ.then (S.sq (S.sq (S.rg ?_))))
    refine S.qu (Z.mv rfl) ?_
    refine S.qu (Z.lns sl149 rfl) ?_
    refine S.qu (Z.mv rfl) ?_
    refine US.nil (UQ.then (UW.block ?_))
    refine S.loop (fun j : Nat × Nat × List (List AV) => [(27, .v (.int .i64 (j.1 : Int))), (26, .v (.int .i64 ((encP ps).length : Int))), (25, .sl (encP ps)), (6, .own j.2.1 0 (ps.take j.1).flatten.length 1)]) (fun j => [(j.2.1, .row 5 1 j.2.2)]) (fun j => j.1 ≤ ps.length ∧ j.2.2.take (ps.take j.1).flatten.length = encY (ps.take j.1).flatten ∧ (ps.take j.1).flatten.length ≤ j.2.2.length) (fun j => ps.length - j.1) (0, p24, encY (List.replicate m24 0)) ⟨Nat.zero_le _, rfl, Nat.zero_le _⟩ ⟨rfl, rfl, rfl, rfl, trivial⟩ (.refl _) ?_
    rintro ⟨j, r, R⟩ ⟨hj, hR, hRl⟩
    dsimp only at hj hR hRl ⊢
    have hfl := flat_le ps j
    by_cases hlt : j < ps.length
    · have hg := encP_get ps j hlt
      have hsn := flat_snoc ps j hlt
      have hfl1 := flat_le ps (j + 1)
      have hsl := congrArg List.length hsn
      rw [List.length_append] at hsl
      have hbl := encY_len (ps.getD j [])
      have hbs := encY_sz (ps.getD j [])
      have hap : R.take (ps.take j).flatten.length ++ encY (ps.getD j []) = encY (ps.take (j + 1)).flatten := by rw [hR, ← encY_app, ← hsn]
      have hn := encY_len (ps.take (j + 1)).flatten
      have hln : (ps.take j).flatten.length + (encY (ps.getD j [])).length = (ps.take (j + 1)).flatten.length := by omega
      refine S.sq (S.rg ?_)
      refine S.qu (Z.bi rfl rfl rfl) ?_
      refine US.nil (UQ.then (S.sq ?_))
      refine S.cT rfl (decide_eq_true (by omega)) ?_
      refine UW.skip (UQ.then (S.sq (UW.block (S.sq (S.rg ?_)))))
      refine S.qu (Z.ia sl149 rfl rfl (by omega) hg (by rfl)) ?_
      refine S.qu (Z.lpc ty22 rfl) ?_
      refine S.qu (Z.as rfl) ?_
      refine US.nil (UQ.then (S.rg ?_))
      refine S.qu (Z.mv rfl) ?_
      refine S.qu (Z.mv rfl) ?_
      refine S.dd (D.ap 0 row22 rfl rfl hRl rfl (.sl hbs) (by omega) hap (fun p33 => ?_))
      rw [hln]
      refine S.qu (Z.as rfl) ?_
      refine US.nil (UQ.blockN (UQ.then (S.rg ?_)))
      refine S.qu (Z.add (r := ((j + 1 : Nat) : Int)) rfl rfl (IntWalk.i64_in _ (by omega))) ?_
      refine S.qu (Z.mv rfl) ?_
      refine US.nil ?_
      refine S.back (j + 1, p33, encY (ps.take (j + 1)).flatten) ⟨rfl, rfl, rfl, rfl, trivial⟩ (.refl _) ?_ (by omega)
      exact ⟨by show j + 1 ≤ ps.length; omega, List.take_of_length_le (by show (encY (ps.take (j + 1)).flatten).length ≤ (ps.take (j + 1)).flatten.length; omega), by show (ps.take (j + 1)).flatten.length ≤ (encY (ps.take (j + 1)).flatten).length; omega⟩
    · have hjl : j = ps.length := by omega
      subst hjl
      rw [List.take_length] at hR hRl ⊢
      refine S.sq (S.rg ?_)
      refine S.qu (Z.bi rfl rfl rfl) ?_
      refine US.nil (UQ.then (S.sq ?_))
      refine S.cF rfl (decide_eq_false (by omega)) ?_
      refine UW.exit (UQ.pass (UQ.pass (UQ.here (UQ.then (S.sq (S.rg ?_))))))
      refine S.qu (Z.mv rfl) ?_
      refine S.qu (Z.as rfl) ?_
      refine US.freeze' 2 0 (rs := encY ps.flatten) rfl rfl (by omega) (by rw [List.drop_zero]; exact hR) ?_
      refine US.nil (UQ.then (UW.ret ?_))
      refine S.rtR (fun _ => res_tmp rfl rfl) ?_
      rfl
theorem cloneB_spec (b : List Int) (hb : b.length ≤ 100000000000) (H : Hp) : ACall Tryz.prog 121 [.sl (encY b)] H (IsR H (.sl (encY b))) := by
  have hbl := encY_len b
  have hbs := encY_sz b
  refine UCall (n := 8) (H0 := H) (objs := []) Tryz.func121 (by kernel_rfl) rfl (by rw [Tryz.ntmps121]; rfl) .nil ?_
  refine S.sq (S.rg ?_)
  refine S.qu (Z.as rfl) ?_
  refine US.nilOwn 2 5 1 (by decide) rfl (fun p2 => ?_)
  refine US.nil (UQ.then (S.sq (S.sq (S.rg ?_))))
  refine S.qu (Z.mv rfl) ?_
  refine S.dd (D.eqn Tryz.underlying22 rfl (fun c4 h4 => ?_))
  refine US.nil (UQ.then ?_)
  refine S.cB rfl (fun hc4 => ?_) (fun hc4 => ?_)
  refine S.sq (S.rg ?_)
  refine S.qu (Z.as rfl) ?_
  refine US.nilOwn 2 5 1 (by decide) rfl (fun p2 => ?_)
  refine US.freeze' 2 0 (rs := encY b) rfl rfl (by first | decide | omega) (by first | (rw [h4 hc4]; rfl) | (rw [List.drop_zero]; exact List.take_of_length_le (by omega))) ?_
  refine US.nil (UQ.then (UW.ret (UQ.passR ?_)))
  refine S.rtR (fun _ => res_tmp rfl rfl) ?_
  rfl
  refine UW.skip (UQ.then (S.sq (S.rg ?_)))
  refine S.dd (D.lit row22 rfl rfl (lit_ok rfl) (fun p5 => ?_))
  refine S.qu (Z.mv rfl) ?_
  refine S.dd (D.ap 0 row22 rfl rfl (by decide) rfl (.sl hbs) (by omega) (rws := encY b) rfl (fun p7 => ?_))
  refine S.qu (Z.as rfl) ?_
  refine US.freeze' 2 0 (rs := encY b) rfl rfl (by first | decide | omega) (by first | (rw [h4 hc4]; rfl) | (rw [List.drop_zero]; exact List.take_of_length_le (by omega))) ?_
  refine US.nil (UQ.then (UW.ret ?_))
  refine S.rtR (fun _ => res_tmp rfl rfl) ?_
  rfl
end Go.Proofs.YtgmfgmbgmjbdhaaGreatDoor
