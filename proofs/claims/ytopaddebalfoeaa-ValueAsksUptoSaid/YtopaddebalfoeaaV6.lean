/- Numbers, keys, one that fails. -/
import Derived.Test.YtopaddebalfoeaaV5
namespace Go.Proofs.Ytopaddebalfoeaa
open Go Go.RowKit Go.Eng
set_option linter.unusedSimpArgs false
set_option linter.unusedVariables false
def numberV (x : V) : Bool := if x.k = 1 then (x.n == 0 || x.n == 1) else if x.k = 2 then (decide (-9007199254740991 ≤ x.n) && decide (x.n ≤ 9007199254740991)) else (x.n == 0)
theorem number_spec (x : V) (H : Hp) : ACall Try.prog 34 [.agg (encV x)] H (IsR H (.v (.bool (numberV x)))) := by
  obtain ⟨k, n, t, ks, vs⟩ := x
  refine UCall (n := 28) (H0 := H) (objs := []) Try.func34 (by kernel_rfl) rfl (by rw [Try.ntmps34]; rfl) .nil <| ?_
  refine Q.rg <| US.box rfl (by decide) rfl rfl rfl rfl (by rfl) fun p1 => ?_
  refine Q.as rfl <| Q.nt <| UW.seq <| Q.rg <| US.fieldAddr rfl (by decide) rfl rfl rfl f27_0 <| Q.lc 0 ty3 rfl rfl rfl <| Q.nt <| UW.block <| Q.rg <| ?_
  by_cases h1 : k = 1
  · refine US.bin_int rfl (by decide) rfl rfl rfl rfl (r := .bool true) (by (simp [iop, sop, h1]; done)) <| ?_
    refine Q.as rfl <| Q.nt <| ?_
    refine UW.cond rfl (fun _ => ?_) (fun h => absurd h (by simp))
    refine Q.rg <| ?_
    by_cases h0 : n = 0
    · refine US.fieldAddr rfl (by decide) rfl rfl rfl f27_1 <| Q.lc 0 ty2 rfl rfl rfl <| US.bin_int rfl (by decide) rfl rfl rfl rfl (r := .bool true) (by (simp [iop, sop, h0]; done)) <| ?_
      refine Q.mv rfl <| Q.of <| Q.of <| Q.of <| Q.pk rfl rfl <| Q.as rfl <| Q.nt <| UW.ret <| UQ.blockR <| UQ.passR <| ?_
      refine retR [] (fun _ => res_tmp rfl rfl) (by simp) fun hd => ⟨?_, rfl⟩
      simp [numberV, V.k, V.n, h1, h0] <;> rfl
    · refine US.fieldAddr rfl (by decide) rfl rfl rfl f27_1 <| Q.lc 0 ty2 rfl rfl rfl <| US.bin_int rfl (by decide) rfl rfl rfl rfl (r := .bool false) (by (simp [iop, sop, h0]; done)) <| ?_
      refine Q.mv rfl <| ?_
      (refine US.on rfl rfl (by decide) rfl ?_; refine US.fieldAddr rfl (by decide) rfl rfl rfl f27_1 ?_)
      (refine US.on rfl rfl (by decide) rfl ?_; refine US.ld_cell rfl (by decide) rfl rfl ty2 rfl (k := 0) rfl rfl ?_)
      (refine US.on rfl rfl (by decide) rfl ?_; refine US.bin_int rfl (by decide) rfl rfl rfl rfl rfl ?_)
      refine Q.pk rfl rfl <| Q.as rfl <| Q.nt <| UW.ret <| UQ.blockR <| UQ.passR <| ?_
      refine retR [] (fun _ => res_tmp rfl rfl) (by simp) fun hd => ⟨?_, rfl⟩
      simp [numberV, V.k, V.n, h1, h0] <;> rfl
  · refine US.bin_int rfl (by decide) rfl rfl rfl rfl (r := .bool false) (by (simp [iop, sop, h1]; done)) <| ?_
    refine Q.as rfl <| Q.nt <| UW.cond rfl (fun h => absurd h (by simp)) fun _ => ?_
    refine Q.rg <| ?_
    by_cases h2 : k = 2
    · refine US.bin_int rfl (by decide) rfl rfl rfl rfl (r := .bool true) (by (simp [iop, sop, h2]; done)) <| ?_
      refine Q.as rfl <| Q.nt <| ?_
      refine UW.cond rfl (fun _ => ?_) (fun h => absurd h (by simp))
      refine Q.rg <| ?_
      by_cases h0 : -9007199254740991 ≤ n
      · refine US.fieldAddr rfl (by decide) rfl rfl rfl f27_1 <| Q.lc 0 ty2 rfl rfl rfl <| US.bin_int rfl (by decide) rfl rfl rfl rfl (r := .bool true) (by (simp [iop, sop, h0]; done)) <| ?_
        refine Q.mv rfl <| ?_
        (refine US.on rfl rfl (by decide) rfl ?_; refine US.fieldAddr rfl (by decide) rfl rfl rfl f27_1 ?_)
        (refine US.on rfl rfl (by decide) rfl ?_; refine US.ld_cell rfl (by decide) rfl rfl ty2 rfl (k := 0) rfl rfl ?_)
        (refine US.on rfl rfl (by decide) rfl ?_; refine US.bin_int rfl (by decide) rfl rfl rfl rfl rfl ?_)
        refine Q.pk rfl rfl <| Q.as rfl <| Q.nt <| UW.ret <| UQ.blockR <| UQ.passR <| ?_
        refine retR [] (fun _ => res_tmp rfl rfl) (by simp) fun hd => ⟨?_, rfl⟩
        simp [numberV, V.k, V.n, h2, h0] <;> rfl
      · refine US.fieldAddr rfl (by decide) rfl rfl rfl f27_1 <| Q.lc 0 ty2 rfl rfl rfl <| US.bin_int rfl (by decide) rfl rfl rfl rfl (r := .bool false) (by (simp [iop, sop, h0]; done)) <| ?_
        refine Q.mv rfl <| Q.of <| Q.of <| Q.of <| Q.pk rfl rfl <| Q.as rfl <| Q.nt <| UW.ret <| UQ.blockR <| UQ.passR <| ?_
        refine retR [] (fun _ => res_tmp rfl rfl) (by simp) fun hd => ⟨?_, rfl⟩
        simp [numberV, V.k, V.n, h2, h0] <;> rfl
    · refine US.bin_int rfl (by decide) rfl rfl rfl rfl (r := .bool false) (by (simp [iop, sop, h2]; done)) <| ?_
      refine Q.as rfl <| Q.nt <| UW.cond rfl (fun h => absurd h (by simp)) fun _ => ?_
      refine UW.skip <| UQ.blockN <| UQ.then <| Q.rg <| US.fieldAddr rfl (by decide) rfl rfl rfl f27_1 <| Q.lc 0 ty2 rfl rfl rfl <| Q.bi rfl rfl rfl <| Q.as rfl <| Q.nt <| UW.ret <| ?_
      refine retR [] (fun _ => res_tmp rfl rfl) (by simp) fun hd => ⟨?_, rfl⟩
      simp [numberV, V.k, V.n, h1, h2] <;> rfl
/-- May the key at k stand there? -/
def okKey (ks : List ByteArray) (k : Nat) : Bool := decide (chk (ks.getD k ⟨#[]⟩) < 0) && (decide (k = 0) || decide (cmpB (ks.getD (k - 1) ⟨#[]⟩) (ks.getD k ⟨#[]⟩) < 0))
def keyedV (x : V) : Bool := if x.k = 5 then (List.range x.ks.length).all (okKey x.ks) && ((x.ks.length : Int) == (x.vs.length : Int)) else ((x.ks.length : Int) == 0)
theorem strs_before (l : List ByteArray) (k : Nat) (h : k < l.length) (h0 : 0 < k) : (l.map encS)[((k : Int) - 1).toNat]? = some (encS (l.getD (k - 1) ⟨#[]⟩)) := by
  have e : ((k : Int) - 1).toNat = k - 1 := by omega
  rw [e, strs_get l (k - 1) (by omega), getD_at (by omega)]
theorem keyed_spec (x : V) (hx : Fits x) (H : Hp) : ACall Try.prog 35 [.agg (encV x)] H (IsR H (.v (.bool (keyedV x)))) := by
  have hkl := hx.ksl
  obtain ⟨k, n, t, ks, vs⟩ := x
  simp only [V.ks] at hkl
  have hml : (ks.map encS).length = ks.length := List.length_map ..
  have hvl := encVs_len vs
  refine UCall (n := 46) (H0 := H) (objs := []) Try.func35 (by kernel_rfl) rfl (by rw [Try.ntmps35]; rfl) .nil <| ?_
  refine Q.rg <| US.box rfl (by decide) rfl rfl rfl rfl (by rfl) fun p1 => ?_
  refine Q.as rfl <| Q.nt <| UW.seq <| Q.rg <| ?_
  by_cases h5 : k = 5
  · refine US.fieldAddr rfl (by decide) rfl rfl rfl f27_0 <| Q.lc 0 ty3 rfl rfl rfl <| US.bin_int rfl (by decide) rfl rfl rfl rfl (r := .bool false) (by (simp [iop, sop, h5]; done)) <| ?_
    refine Q.nt <| UW.cond rfl (fun h => absurd h (by simp)) fun _ => ?_
    refine UW.skip <| UQ.then <| UW.seq <| Q.rg <| US.fieldAddr rfl (by decide) rfl rfl rfl f27_3 <| Q.lc 0 ty24 rfl rfl rfl <| US.len_sl rfl (by decide) rfl rfl sl24 rfl <| Q.mv rfl <| Q.nt <| UW.block <| UW.loop (fun i : Nat => [(15, .v (.int .i64 (i : Int))), (13, strs ks), (14, .v (.int .i64 ((ks.map encS).length : Int))), (1, .ptr p1 0)]) (fun _ => [(p1, .box 27 (encV (.mk k n t ks vs)))]) (fun i => i ≤ ks.length ∧ ∀ j, j < i → okKey ks j = true) (fun i => ks.length - i) 0 ⟨Nat.zero_le _, fun j h => absurd h (by omega)⟩ ⟨rfl, rfl, rfl, rfl, trivial⟩ (.refl _) <| ?_
    rintro i ⟨hi, hj⟩
    refine Q.rg <| Q.bi rfl rfl rfl <| Q.nt <| UW.seq <| ?_
    refine UW.cond rfl (fun h => ?_) (fun h => ?_)
    · have h := of_decide_eq_true h
      have hlt : i < ks.length := by omega
      have hgd : ks.getD i ⟨#[]⟩ = ks[i] := getD_at hlt
      refine UW.skip <| UQ.then <| UW.seq <| UW.block <| Q.rg <| Q.mv rfl <| US.indexAddr_sl rfl (by decide) rfl rfl sl24 rfl rfl (by omega) (strs_get ks i hlt) rfl <| US.load_rp_cell rfl (by decide) rfl rfl rfl ty9 <| Q.as rfl <| Q.as rfl <| Q.nt <| Q.rg <| ?_
      have bad : okKey ks i = false → keyedV (.mk k n t ks vs) = false := fun hb => by
        have : (List.range ks.length).all (okKey ks) = false := by
          rw [List.all_eq_false]
          exact ⟨i, List.mem_range.2 hlt, by simp [hb]⟩
        simp [keyedV, V.k, V.ks, h5, this]
      have again : okKey ks i = true → ∀ j, j < i + 1 → okKey ks j = true := fun hb j hji => by
        by_cases e : j = i
        · rw [e]; exact hb
        · exact hj j (by omega)
      by_cases hc : 0 ≤ chk ks[i]
      · refine Q.mv rfl <| US.call_pure rfl (by decide) rfl rfl rfl rfl (fun _ => check_spec _ _) <| US.bin_int rfl (by decide) rfl rfl rfl rfl (r := .bool true) (by (simp [iop, sop, hc]; done)) <| ?_
        refine Q.mv rfl <| Q.of <| Q.of <| Q.of <| Q.ou <| Q.ou <| Q.ou <| Q.ou <| Q.ou <| Q.ou <| Q.ou <| Q.ou <| Q.ou <| Q.of <| Q.pk rfl rfl <| Q.nt <| ?_
        refine UW.cond rfl (fun _ => ?_) (fun h => absurd h (by simp))
        refine Q.rg <| Q.as rfl <| Q.nt <| UW.ret <| UQ.blockR <| UQ.passR <| UQ.passR <| UQ.blockR <| UQ.passR <| ?_
        refine retR [] (fun _ => res_tmp rfl rfl) (by simp) fun hd => ⟨?_, rfl⟩
        rw [bad (by unfold okKey; rw [hgd, decide_eq_false (by omega)]; rfl)]
      · by_cases h0 : 0 < (i : Int)
        · refine Q.mv rfl <| US.call_pure rfl (by decide) rfl rfl rfl rfl (fun _ => check_spec _ _) <| US.bin_int rfl (by decide) rfl rfl rfl rfl (r := .bool false) (by (simp [iop, sop, hc]; done)) <| ?_
          refine Q.mv rfl <| ?_
          (refine US.on rfl rfl (by decide) rfl ?_; refine US.move rfl (by decide) rfl rfl rfl ?_)
          (refine US.on rfl rfl (by decide) rfl ?_; refine US.bin_int rfl (by decide) rfl rfl rfl rfl (r := .bool true) (by (simp [iop, sop]; omega)) ?_)
          (refine US.on rfl rfl (by decide) rfl ?_; refine US.move rfl (by decide) rfl rfl rfl ?_)
          (refine US.on rfl rfl (by decide) rfl ?_; refine US.fieldAddr rfl (by decide) rfl rfl rfl f27_3 ?_)
          (refine US.on rfl rfl (by decide) rfl ?_; refine US.ld_cell rfl (by decide) rfl rfl ty24 rfl (k := 0) rfl rfl ?_)
          (refine US.on rfl rfl (by decide) rfl ?_; refine US.move rfl (by decide) rfl rfl rfl ?_)
          (refine US.on rfl rfl (by decide) rfl ?_; refine US.sub rfl (by decide) rfl rfl rfl rfl (IntWalk.i64_in _ (by omega)) ?_)
          (refine US.on rfl rfl (by decide) rfl ?_; refine US.indexAddr_sl rfl (by decide) rfl rfl sl24 rfl rfl (by omega) (strs_before ks i hlt (by omega)) rfl ?_)
          (refine US.on rfl rfl (by decide) rfl ?_; refine US.load_rp_cell rfl (by decide) rfl rfl rfl ty9 ?_)
          (refine US.on rfl rfl (by decide) rfl ?_; refine US.move rfl (by decide) rfl rfl rfl ?_)
          (refine US.on rfl rfl (by decide) rfl ?_; refine US.call_pure rfl (by decide) rfl rfl rfl rfl (fun _ => less_spec _ _ _) ?_)
          (refine US.on rfl rfl (by decide) rfl ?_; refine US.not rfl (by decide) rfl rfl rfl ?_)
          (refine US.on rfl rfl (by decide) rfl ?_; refine US.pick rfl (by decide) rfl rfl rfl rfl ?_)
          refine Q.pk rfl rfl <| Q.nt <| ?_
          refine UW.cond rfl (fun hb => ?_) (fun hb => ?_)
          · refine Q.rg <| Q.as rfl <| Q.nt <| UW.ret <| UQ.blockR <| UQ.passR <| UQ.passR <| UQ.blockR <| UQ.passR <| ?_
            refine retR [] (fun _ => res_tmp rfl rfl) (by simp) fun hd => ⟨?_, rfl⟩
            rw [bad (by unfold okKey; rw [hgd, decide_eq_true (by omega : chk ks[i] < 0), decide_eq_false (by omega : ¬ i = 0)]; simpa using hb)]
          · refine UW.skip <| UQ.blockN <| UQ.then <| UW.region <| US.add rfl (by decide) rfl rfl rfl rfl (IntWalk.i64_in _ (by omega)) <| Q.mv rfl <| ?_
            exact US.round (a' := i + 1) ⟨by omega, again (by unfold okKey; rw [hgd, decide_eq_true (by omega : chk ks[i] < 0), decide_eq_false (by omega : ¬ i = 0)]; simpa using hb)⟩ (by omega) ⟨rfl, rfl, rfl, rfl, trivial⟩ (.refl _)
        · refine Q.mv rfl <| US.call_pure rfl (by decide) rfl rfl rfl rfl (fun _ => check_spec _ _) <| US.bin_int rfl (by decide) rfl rfl rfl rfl (r := .bool false) (by (simp [iop, sop, hc]; done)) <| ?_
          refine Q.mv rfl <| ?_
          (refine US.on rfl rfl (by decide) rfl ?_; refine US.move rfl (by decide) rfl rfl rfl ?_)
          (refine US.on rfl rfl (by decide) rfl ?_; refine US.bin_int rfl (by decide) rfl rfl rfl rfl (r := .bool false) (by (simp [iop, sop]; omega)) ?_)
          (refine US.on rfl rfl (by decide) rfl ?_; refine US.move rfl (by decide) rfl rfl rfl ?_)
          refine Q.of <| Q.of <| Q.of <| Q.of <| Q.of <| Q.of <| Q.of <| Q.of <| Q.of <| ?_
          (refine US.on rfl rfl (by decide) rfl ?_; refine US.pick rfl (by decide) rfl rfl rfl rfl ?_)
          refine Q.pk rfl rfl <| Q.nt <| UW.cond rfl (fun h => absurd h (by simp)) fun _ => ?_
          refine UW.skip <| UQ.blockN <| UQ.then <| UW.region <| US.add rfl (by decide) rfl rfl rfl rfl (IntWalk.i64_in _ (by omega)) <| Q.mv rfl <| ?_
          exact US.round (a' := i + 1) ⟨by omega, again (by unfold okKey; rw [hgd, decide_eq_true (by omega : chk ks[i] < 0), decide_eq_true (by omega : i = 0)]; rfl)⟩ (by omega) ⟨rfl, rfl, rfl, rfl, trivial⟩ (.refl _)
    · have h := of_decide_eq_false h
      refine UW.exit <| UQ.pass <| UQ.pass <| UQ.here <| UQ.then <| Q.rg <| US.fieldAddr rfl (by decide) rfl rfl rfl f27_3 <| Q.lc 0 ty24 rfl rfl rfl <| US.len_sl rfl (by decide) rfl rfl sl24 rfl <| US.fieldAddr rfl (by decide) rfl rfl rfl f27_4 <| Q.lc 0 ty25 rfl rfl rfl <| US.len_sl rfl (by decide) rfl rfl sl25 rfl <| Q.bi rfl rfl rfl <| Q.as rfl <| Q.nt <| UW.ret <| ?_
      refine retR [] (fun _ => res_tmp rfl rfl) (by simp) fun hd => ⟨?_, rfl⟩
      have hall : (List.range ks.length).all (okKey ks) = true := by
        rw [List.all_eq_true]
        exact fun j hjm => hj j (by have := List.mem_range.1 hjm; omega)
      simp [keyedV, V.k, V.ks, V.vs, h5, hall, hvl]
  · refine US.fieldAddr rfl (by decide) rfl rfl rfl f27_0 <| Q.lc 0 ty3 rfl rfl rfl <| US.bin_int rfl (by decide) rfl rfl rfl rfl (r := .bool true) (by (simp [iop, sop, h5]; done)) <| ?_
    refine Q.nt <| ?_
    refine UW.cond rfl (fun _ => ?_) (fun h => absurd h (by simp))
    refine Q.rg <| US.fieldAddr rfl (by decide) rfl rfl rfl f27_3 <| Q.lc 0 ty24 rfl rfl rfl <| US.len_sl rfl (by decide) rfl rfl sl24 rfl <| Q.bi rfl rfl rfl <| Q.as rfl <| Q.nt <| UW.ret <| UQ.passR <| ?_
    refine retR [] (fun _ => res_tmp rfl rfl) (by simp) fun hd => ⟨?_, rfl⟩
    simp [keyedV, V.k, V.ks, h5]
end Go.Proofs.Ytopaddebalfoeaa
