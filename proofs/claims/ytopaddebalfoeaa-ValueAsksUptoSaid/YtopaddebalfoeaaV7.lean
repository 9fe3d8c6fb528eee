/- What is right. -/
import Derived.Test.YtopaddebalfoeaaV6
namespace Go.Proofs.Ytopaddebalfoeaa
open Go Go.RowKit Go.Eng
set_option linter.unusedSimpArgs false
set_option linter.unusedVariables false
theorem indexFunc_spec (l : List V) (f : Nat) (caps : List AV) (g : V → Bool) (hl : l.length ≤ 1000000) (H : Hp) (hc : ∀ x ∈ l, ∀ H', Sub H H' → ACall Try.prog f ([.agg (encV x)] ++ caps) H' (IsR H' (.v (.bool (g x))))) :
    ACall Try.prog 65 [.sl (encVs l), .clo f caps] H (IsR H (.v (.int .i64 (oi (l.findIdx? g))))) := by
  have hll := encVs_len l
  refine UCall (n := 19) (H0 := H) (objs := []) Try.func65 (by kernel_rfl) rfl (by rw [Try.ntmps65]; rfl) .nil <| ?_
  refine Q.rg <| Q.as rfl <| Q.nt <| UW.seq <| Q.rg <| Q.mv rfl <| US.len_sl rfl (by decide) rfl rfl sl25 rfl <| Q.mv rfl <| Q.nt <| UW.block <| UW.loop (fun k : Nat => [(8, .v (.int .i64 (k : Int))), (6, .sl (encVs l)), (7, .v (.int .i64 ((encVs l).length : Int))), (0, .sl (encVs l)), (1, .clo f caps)]) (fun _ => []) (fun k => k ≤ l.length ∧ ∀ j (h : j < l.length), j < k → g l[j] = false) (fun k => l.length - k) 0 ⟨Nat.zero_le _, fun j _ h => absurd h (by omega)⟩ ⟨rfl, rfl, rfl, rfl, rfl, trivial⟩ (.refl _) <| ?_
  rintro k ⟨hk, hj⟩
  refine Q.rg <| Q.bi rfl rfl rfl <| Q.nt <| UW.seq <| ?_
  refine UW.cond rfl (fun h => ?_) (fun h => ?_)
  · have h := of_decide_eq_true h
    have hlt : k < l.length := by omega
    refine UW.skip <| UQ.then <| UW.seq <| UW.block <| Q.rg <| Q.mv rfl <| Q.as rfl <| Q.nt <| Q.rg <| Q.mv rfl <| Q.mv rfl <| Q.mv rfl <| US.indexAddr_sl rfl (by decide) rfl rfl sl25 rfl rfl (by omega) (encVs_get l k hlt) (encV_len _) <| US.load_rp_agg rfl (by decide) rfl rfl rfl ty27 (by exact encV_len _) <| ?_
    refine US.call_pure rfl (by decide) rfl rfl rfl rfl (fun hd => hc _ (List.getElem_mem hlt) _ (extH_sub hd)) <| Q.nt <| ?_
    refine UW.cond rfl (fun h2 => ?_) (fun h2 => ?_)
    · refine Q.rg <| Q.mv rfl <| Q.as rfl <| Q.nt <| UW.ret <| UQ.blockR <| UQ.passR <| UQ.passR <| UQ.blockR <| UQ.passR <| ?_
      refine retR [] (fun _ => res_tmp rfl rfl) (.refl _) fun hd => ⟨?_, rfl⟩
      rw [(List.findIdx?_eq_some_iff_getElem).2 ⟨hlt, h2, fun j hjk => by rw [hj j (by omega) hjk]; simp⟩]; rfl
    · refine UW.skip <| UQ.blockN <| UQ.then <| UW.region <| US.add rfl (by decide) rfl rfl rfl rfl (IntWalk.i64_in _ (by omega)) <| Q.mv rfl <| ?_
      exact US.round (a' := k + 1) ⟨by omega, fun j h3 h4 => by
        by_cases hjk : j = k
        · subst hjk; exact h2
        · exact hj j h3 (by omega)⟩ (by omega) ⟨rfl, rfl, rfl, rfl, rfl, trivial⟩ (.refl _)
  · have h := of_decide_eq_false h
    refine UW.exit <| UQ.pass <| UQ.pass <| UQ.here <| UQ.then <| Q.rg <| Q.as rfl <| Q.nt <| UW.ret <| ?_
    refine retR [] (fun _ => res_tmp rfl rfl) (.refl _) fun hd => ⟨?_, rfl⟩
    rw [(List.findIdx?_eq_none_iff).2 (fun x hx => by
      obtain ⟨j, hj2, rfl⟩ := List.getElem_of_mem hx
      exact hj j hj2 (by omega))]; rfl
theorem oi_any (l : List V) (g : V → Bool) : decide (0 ≤ oi (l.findIdx? g)) = l.any g := by
  cases h : l.findIdx? g with
  | none =>
    rw [List.findIdx?_eq_none_iff] at h
    have : l.any g = false := by rw [List.any_eq_false]; intro x hx; rw [h x hx]; simp
    rw [this]; rfl
  | some i =>
    rw [List.findIdx?_eq_some_iff_getElem] at h
    obtain ⟨h1, h2, _⟩ := h
    have : l.any g = true := by rw [List.any_eq_true]; exact ⟨_, List.getElem_mem h1, h2⟩
    rw [this]
    simp [oi]
theorem containsFunc_spec (l : List V) (f : Nat) (caps : List AV) (g : V → Bool) (hl : l.length ≤ 1000000) (H : Hp) (hc : ∀ x ∈ l, ∀ H', Sub H H' → ACall Try.prog f ([.agg (encV x)] ++ caps) H' (IsR H' (.v (.bool (g x))))) :
    ACall Try.prog 37 [.sl (encVs l), .clo f caps] H (IsR H (.v (.bool (l.any g)))) := by
  refine UCall (n := 9) (H0 := H) (objs := []) Try.func37 (by kernel_rfl) rfl (by rw [Try.ntmps37]; rfl) .nil <| ?_
  refine Q.rg <| Q.as rfl <| Q.nt <| Q.rg <| Q.mv rfl <| Q.mv rfl <| US.call_pure rfl (by decide) rfl rfl rfl rfl (fun hd => indexFunc_spec l f caps g hl _ hc) <| Q.bi rfl rfl rfl <| Q.as rfl <| Q.nt <| UW.ret <| ?_
  refine retR [] (fun _ => res_tmp rfl rfl) (.refl _) fun hd => ⟨?_, rfl⟩
  rw [← oi_any]
mutual
/-- What is right. -/
def rightV : V → Bool
  | .mk k n t ks vs => (decide (0 ≤ k) && decide (k ≤ 5) && numberV (.mk k n t ks vs) && keyedV (.mk k n t ks vs)) && !(!(t.toList == (⟨#[]⟩ : ByteArray).toList) && (!(k == 3) || decide (0 ≤ chk t))) && !(decide (k < 4) && decide ((0 : Int) < vs.length)) && rightsV vs
def rightsV : List V → Bool
  | [] => true
  | x :: r => rightV x && rightsV r
end
theorem rightsV_eq : ∀ l : List V, rightsV l = !l.any (fun x => !rightV x)
  | [] => rfl
  | x :: r => by rw [rightsV, rightsV_eq r]; simp
theorem right11_spec (x : V) (p : Nat) (H : Hp) (hp : H p = some (.box 23 [.clo 33 [.ptr p 0]])) (hr : ∀ H', H' p = some (.box 23 [.clo 33 [.ptr p 0]]) → ACall Try.prog 33 [.agg (encV x), .ptr p 0] H' (IsR H' (.v (.bool (rightV x))))) :
    ACall Try.prog 38 [.agg (encV x), .ptr p 0] H (IsR H (.v (.bool (!rightV x)))) := by
  refine UCall (n := 8) (H0 := H) (objs := []) Try.func38 (by kernel_rfl) rfl (by rw [Try.ntmps38]; rfl) .nil <| ?_
  refine Q.rg <| US.box rfl (by decide) rfl rfl rfl rfl (by exact encV_cell _) fun p2 => ?_
  refine Q.as rfl <| Q.nt <| Q.rg <| US.ld_old rfl (by decide) rfl rfl ty23 rfl hp rfl <| US.ld_whole rfl (by decide) rfl rfl ty27 rfl (k := 0) rfl (by exact encV_len _) <| ?_
  refine US.call_pure rfl (by decide) rfl rfl rfl rfl (fun hd => hr _ (hd.old hp)) <| US.not rfl (by decide) rfl rfl rfl <| Q.as rfl <| Q.nt <| UW.ret <| ?_
  exact retR [] (fun _ => res_tmp rfl rfl) (by simp) fun hd => ⟨rfl, rfl⟩
theorem right1_spec (x : V) (hx : Fits x) (p : Nat) : ∀ (H : Hp) (hp : H p = some (.box 23 [.clo 33 [.ptr p 0]])), ACall Try.prog 33 [.agg (encV x), .ptr p 0] H (IsR H (.v (.bool (rightV x)))) := by
  induction hx with
  | mk k n t ks vs h1 h2 h ih =>
  intro H hp
  have hf : Fits (.mk k n t ks vs) := .mk k n t ks vs h1 h2 h
  have hvl := encVs_len vs
  have bad : ∀ b, (b = false → rightV (.mk k n t ks vs) = false) → b = false → IsR H (.v (.bool (rightV (.mk k n t ks vs)))) (.v (.bool false)) H := fun b hb h => ⟨by rw [hb h], rfl⟩
  refine UCall (n := 49) (H0 := H) (objs := []) Try.func33 (by kernel_rfl) rfl (by rw [Try.ntmps33]; rfl) .nil <| ?_
  refine Q.rg <| US.box rfl (by decide) rfl rfl rfl rfl (by rfl) fun p2 => ?_
  refine Q.as rfl <| Q.nt <| UW.seq <| UW.block <| UW.seq <| Q.rg <| ?_
  by_cases hk0 : k < 0
  · refine US.fieldAddr rfl (by decide) rfl rfl rfl f27_0 <| Q.lc 0 ty3 rfl rfl rfl <| US.bin_int rfl (by decide) rfl rfl rfl rfl (r := .bool true) (by (simp [iop, sop, hk0]; done)) <| ?_
    refine Q.mv rfl <| Q.of <| Q.of <| Q.of <| Q.pk rfl rfl <| Q.as rfl <| Q.nt <| ?_
    refine UW.cond rfl (fun _ => ?_) (fun h => absurd h (by simp))
    refine UW.skip <| UQ.then <| ?_
    refine UW.cond rfl (fun _ => ?_) (fun h => absurd h (by simp))
    refine Q.rg <| Q.as rfl <| Q.nt <| UW.ret <| UQ.blockR <| UQ.passR <| ?_
    refine retR [] (fun _ => res_tmp rfl rfl) (by simp) fun hd => ⟨?_, rfl⟩
    rw [show rightV (.mk k n t ks vs) = false from by rw [rightV, decide_eq_false (by omega : ¬ 0 ≤ k)]; simp]
  · by_cases hk5 : 5 < k
    · refine US.fieldAddr rfl (by decide) rfl rfl rfl f27_0 <| Q.lc 0 ty3 rfl rfl rfl <| US.bin_int rfl (by decide) rfl rfl rfl rfl (r := .bool false) (by (simp [iop, sop, hk0]; done)) <| ?_
      refine Q.mv rfl <| ?_
      (refine US.on rfl rfl (by decide) rfl ?_; refine US.fieldAddr rfl (by decide) rfl rfl rfl f27_0 ?_)
      (refine US.on rfl rfl (by decide) rfl ?_; refine US.ld_cell rfl (by decide) rfl rfl ty3 rfl (k := 0) rfl rfl ?_)
      (refine US.on rfl rfl (by decide) rfl ?_; refine US.bin_int rfl (by decide) rfl rfl rfl rfl (r := .bool true) (by (simp [iop, sop, hk5]; done)) ?_)
      refine Q.pk rfl rfl <| Q.as rfl <| Q.nt <| ?_
      refine UW.cond rfl (fun _ => ?_) (fun h => absurd h (by simp))
      refine UW.skip <| UQ.then <| ?_
      refine UW.cond rfl (fun _ => ?_) (fun h => absurd h (by simp))
      refine Q.rg <| Q.as rfl <| Q.nt <| UW.ret <| UQ.blockR <| UQ.passR <| ?_
      refine retR [] (fun _ => res_tmp rfl rfl) (by simp) fun hd => ⟨?_, rfl⟩
      rw [show rightV (.mk k n t ks vs) = false from by rw [rightV, decide_eq_false (by omega : ¬ k ≤ 5)]; simp]
    · refine US.fieldAddr rfl (by decide) rfl rfl rfl f27_0 <| Q.lc 0 ty3 rfl rfl rfl <| US.bin_int rfl (by decide) rfl rfl rfl rfl (r := .bool false) (by (simp [iop, sop, hk0]; done)) <| ?_
      refine Q.mv rfl <| ?_
      (refine US.on rfl rfl (by decide) rfl ?_; refine US.fieldAddr rfl (by decide) rfl rfl rfl f27_0 ?_)
      (refine US.on rfl rfl (by decide) rfl ?_; refine US.ld_cell rfl (by decide) rfl rfl ty3 rfl (k := 0) rfl rfl ?_)
      (refine US.on rfl rfl (by decide) rfl ?_; refine US.bin_int rfl (by decide) rfl rfl rfl rfl (r := .bool false) (by (simp [iop, sop, hk5]; done)) ?_)
      refine Q.pk rfl rfl <| Q.as rfl <| Q.nt <| UW.cond rfl (fun h => absurd h (by simp)) fun _ => ?_
      refine Q.rg <| US.ld_whole rfl (by decide) rfl rfl ty27 rfl (k := 0) rfl (by rfl) <| ?_
      refine US.call_pure rfl (by decide) rfl rfl rfl rfl (fun _ => number_spec (.mk k n t ks vs) _) <| US.not rfl (by decide) rfl rfl rfl <| Q.as rfl <| Q.nt <| ?_
      cases hnum : numberV (.mk k n t ks vs) with
      | false =>
        refine UW.cond rfl (fun _ => ?_) (fun h => absurd h (by simp))
        refine UW.skip <| UQ.then <| ?_
        refine UW.cond rfl (fun _ => ?_) (fun h => absurd h (by simp))
        refine Q.rg <| Q.as rfl <| Q.nt <| UW.ret <| UQ.blockR <| UQ.passR <| ?_
        refine retR [] (fun _ => res_tmp rfl rfl) (by simp) fun hd => ⟨?_, rfl⟩
        rw [show rightV (.mk k n t ks vs) = false from by rw [rightV, hnum]; simp]
      | true =>
        refine UW.cond rfl (fun h => absurd h (by simp)) fun _ => ?_
        refine UW.region <| US.ld_whole rfl (by decide) rfl rfl ty27 rfl (k := 0) rfl (by rfl) <| ?_
        refine US.call_pure rfl (by decide) rfl rfl rfl rfl (fun _ => keyed_spec (.mk k n t ks vs) hf _) <| US.not rfl (by decide) rfl rfl rfl <| Q.as rfl <| Q.nt <| ?_
        cases hkey : keyedV (.mk k n t ks vs) with
        | false =>
          refine UW.cond rfl (fun _ => ?_) (fun h => absurd h (by simp))
          refine Q.rg <| Q.as rfl <| Q.nt <| UW.ret <| UQ.blockR <| UQ.passR <| ?_
          refine retR [] (fun _ => res_tmp rfl rfl) (by simp) fun hd => ⟨?_, rfl⟩
          rw [show rightV (.mk k n t ks vs) = false from by rw [rightV, hkey]; simp]
        | true =>
          refine UW.cond rfl (fun h => absurd h (by simp)) fun _ => ?_
          refine Q.rg <| ?_
          cases hne : !(t.toList == (⟨#[]⟩ : ByteArray).toList) with
          | false =>
            have htext : (!(!(t.toList == (⟨#[]⟩ : ByteArray).toList) && (!(k == 3) || decide (0 ≤ chk t)))) = true := by rw [hne]; rfl
            refine US.fieldAddr rfl (by decide) rfl rfl rfl f27_2 <| Q.lc 0 ty9 rfl rfl rfl <| US.bin_str rfl (by decide) rfl rfl rfl rfl (r := false) (congrArg some hne) <| Q.mv rfl <| Q.of <| Q.of <| Q.of <| Q.of <| Q.ou <| Q.ou <| Q.ou <| Q.ou <| Q.of <| Q.pk rfl rfl <| Q.as rfl <| Q.nt <| UW.cond rfl (fun h => absurd h (by simp)) fun _ => ?_
            refine Q.rg <| ?_
            by_cases hk4 : k < 4
            · by_cases hv0 : (0 : Int) < (encVs vs).length
              · refine US.fieldAddr rfl (by decide) rfl rfl rfl f27_0 <| Q.lc 0 ty3 rfl rfl rfl <| US.bin_int rfl (by decide) rfl rfl rfl rfl (r := .bool true) (by (simp [iop, sop, hk4]; done)) <| ?_
                refine Q.mv rfl <| ?_
                (refine US.on rfl rfl (by decide) rfl ?_; refine US.fieldAddr rfl (by decide) rfl rfl rfl f27_4 ?_)
                (refine US.on rfl rfl (by decide) rfl ?_; refine US.ld_cell rfl (by decide) rfl rfl ty25 rfl (k := 0) rfl rfl ?_)
                (refine US.on rfl rfl (by decide) rfl ?_; refine US.len_sl rfl (by decide) rfl rfl sl25 rfl ?_)
                (refine US.on rfl rfl (by decide) rfl ?_; refine US.bin_int rfl (by decide) rfl rfl rfl rfl (r := .bool true) (by (simp [iop, sop]; omega)) ?_)
                refine Q.pk rfl rfl <| Q.as rfl <| Q.nt <| ?_
                refine UW.cond rfl (fun _ => ?_) (fun h => absurd h (by simp))
                refine Q.rg <| Q.as rfl <| Q.nt <| UW.ret <| UQ.blockR <| UQ.passR <| ?_
                refine retR [] (fun _ => res_tmp rfl rfl) (by simp) fun hd => ⟨?_, rfl⟩
                rw [show rightV (.mk k n t ks vs) = false from by rw [rightV, decide_eq_true hk4, decide_eq_true (by omega : (0 : Int) < vs.length)]; simp]
              · have hall : rightV (.mk k n t ks vs) = rightsV vs := by rw [rightV, hnum, hkey, htext, decide_eq_true (by omega : 0 ≤ k), decide_eq_true (by omega : k ≤ 5), decide_eq_false (by omega : ¬ (0 : Int) < vs.length)]; simp
                refine US.fieldAddr rfl (by decide) rfl rfl rfl f27_0 <| Q.lc 0 ty3 rfl rfl rfl <| US.bin_int rfl (by decide) rfl rfl rfl rfl (r := .bool true) (by (simp [iop, sop, hk4]; done)) <| ?_
                refine Q.mv rfl <| ?_
                (refine US.on rfl rfl (by decide) rfl ?_; refine US.fieldAddr rfl (by decide) rfl rfl rfl f27_4 ?_)
                (refine US.on rfl rfl (by decide) rfl ?_; refine US.ld_cell rfl (by decide) rfl rfl ty25 rfl (k := 0) rfl rfl ?_)
                (refine US.on rfl rfl (by decide) rfl ?_; refine US.len_sl rfl (by decide) rfl rfl sl25 rfl ?_)
                (refine US.on rfl rfl (by decide) rfl ?_; refine US.bin_int rfl (by decide) rfl rfl rfl rfl (r := .bool false) (by exact congrArg (fun b => some (Value.bool b)) (decide_eq_false hv0)) ?_)
                refine Q.pk rfl rfl <| Q.as rfl <| Q.nt <| UW.cond rfl (fun h => absurd h (by simp)) fun _ => ?_
                refine UW.skip <| UQ.blockN <| UQ.then <| Q.rg <| US.fieldAddr rfl (by decide) rfl rfl rfl f27_4 <| Q.lc 0 ty25 rfl rfl rfl <| US.makeFunc rfl (by decide) rfl rfl rfl <| US.call_pure rfl (by decide) rfl rfl rfl rfl (fun hd => containsFunc_spec vs _ [.ptr p 0] (fun x => !rightV x) h2 _ (fun x hx H' hs => right11_spec x p H' (hs _ _ (hd.old hp)) (fun H'' h => ih x hx H'' h))) <| US.not rfl (by decide) rfl rfl rfl <| Q.as rfl <| Q.nt <| UW.ret <| ?_
                refine retR [] (fun _ => res_tmp rfl rfl) (by simp) fun hd => ⟨?_, rfl⟩
                rw [hall, rightsV_eq]
            · have hall : rightV (.mk k n t ks vs) = rightsV vs := by rw [rightV, hnum, hkey, htext, decide_eq_true (by omega : 0 ≤ k), decide_eq_true (by omega : k ≤ 5), decide_eq_false hk4]; simp
              refine US.fieldAddr rfl (by decide) rfl rfl rfl f27_0 <| Q.lc 0 ty3 rfl rfl rfl <| US.bin_int rfl (by decide) rfl rfl rfl rfl (r := .bool false) (by (simp [iop, sop, hk4]; done)) <| ?_
              refine Q.mv rfl <| Q.of <| Q.of <| Q.of <| Q.of <| Q.pk rfl rfl <| Q.as rfl <| Q.nt <| UW.cond rfl (fun h => absurd h (by simp)) fun _ => ?_
              refine UW.skip <| UQ.blockN <| UQ.then <| Q.rg <| US.fieldAddr rfl (by decide) rfl rfl rfl f27_4 <| Q.lc 0 ty25 rfl rfl rfl <| US.makeFunc rfl (by decide) rfl rfl rfl <| US.call_pure rfl (by decide) rfl rfl rfl rfl (fun hd => containsFunc_spec vs _ [.ptr p 0] (fun x => !rightV x) h2 _ (fun x hx H' hs => right11_spec x p H' (hs _ _ (hd.old hp)) (fun H'' h => ih x hx H'' h))) <| US.not rfl (by decide) rfl rfl rfl <| Q.as rfl <| Q.nt <| UW.ret <| ?_
              refine retR [] (fun _ => res_tmp rfl rfl) (by simp) fun hd => ⟨?_, rfl⟩
              rw [hall, rightsV_eq]
          | true =>
            by_cases h3 : k = 3
            · by_cases hc : 0 ≤ chk t
              · refine US.fieldAddr rfl (by decide) rfl rfl rfl f27_2 <| Q.lc 0 ty9 rfl rfl rfl <| US.bin_str rfl (by decide) rfl rfl rfl rfl (r := true) (congrArg some hne) <| Q.mv rfl <| ?_
                (refine US.on rfl rfl (by decide) rfl ?_; refine US.fieldAddr rfl (by decide) rfl rfl rfl f27_0 ?_)
                (refine US.on rfl rfl (by decide) rfl ?_; refine US.ld_cell rfl (by decide) rfl rfl ty3 rfl (k := 0) rfl rfl ?_)
                (refine US.on rfl rfl (by decide) rfl ?_; refine US.bin_int rfl (by decide) rfl rfl rfl rfl (r := .bool false) (by (simp [iop, sop, h3]; done)) ?_)
                (refine US.on rfl rfl (by decide) rfl ?_; refine US.move rfl (by decide) rfl rfl rfl ?_)
                (refine US.on rfl rfl (by decide) rfl ?_; refine US.fieldAddr rfl (by decide) rfl rfl rfl f27_2 ?_)
                (refine US.on rfl rfl (by decide) rfl ?_; refine US.ld_cell rfl (by decide) rfl rfl ty9 rfl (k := 0) rfl rfl ?_)
                (refine US.on rfl rfl (by decide) rfl ?_; refine US.call_pure rfl (by decide) rfl rfl rfl rfl (fun _ => check_spec _ _) ?_)
                (refine US.on rfl rfl (by decide) rfl ?_; refine US.bin_int rfl (by decide) rfl rfl rfl rfl (r := .bool true) (by (simp [iop, sop, hc]; done)) ?_)
                (refine US.on rfl rfl (by decide) rfl ?_; refine US.pick rfl (by decide) rfl rfl rfl rfl ?_)
                refine Q.pk rfl rfl <| Q.as rfl <| Q.nt <| ?_
                refine UW.cond rfl (fun _ => ?_) (fun h => absurd h (by simp))
                refine Q.rg <| Q.as rfl <| Q.nt <| UW.ret <| UQ.blockR <| UQ.passR <| ?_
                refine retR [] (fun _ => res_tmp rfl rfl) (by simp) fun hd => ⟨?_, rfl⟩
                rw [show rightV (.mk k n t ks vs) = false from by rw [rightV, hne, decide_eq_true hc]; simp]
              · have htext : (!(!(t.toList == (⟨#[]⟩ : ByteArray).toList) && (!(k == 3) || decide (0 ≤ chk t)))) = true := by rw [hne, decide_eq_false hc, h3]; rfl
                refine US.fieldAddr rfl (by decide) rfl rfl rfl f27_2 <| Q.lc 0 ty9 rfl rfl rfl <| US.bin_str rfl (by decide) rfl rfl rfl rfl (r := true) (congrArg some hne) <| Q.mv rfl <| ?_
                (refine US.on rfl rfl (by decide) rfl ?_; refine US.fieldAddr rfl (by decide) rfl rfl rfl f27_0 ?_)
                (refine US.on rfl rfl (by decide) rfl ?_; refine US.ld_cell rfl (by decide) rfl rfl ty3 rfl (k := 0) rfl rfl ?_)
                (refine US.on rfl rfl (by decide) rfl ?_; refine US.bin_int rfl (by decide) rfl rfl rfl rfl (r := .bool false) (by (simp [iop, sop, h3]; done)) ?_)
                (refine US.on rfl rfl (by decide) rfl ?_; refine US.move rfl (by decide) rfl rfl rfl ?_)
                (refine US.on rfl rfl (by decide) rfl ?_; refine US.fieldAddr rfl (by decide) rfl rfl rfl f27_2 ?_)
                (refine US.on rfl rfl (by decide) rfl ?_; refine US.ld_cell rfl (by decide) rfl rfl ty9 rfl (k := 0) rfl rfl ?_)
                (refine US.on rfl rfl (by decide) rfl ?_; refine US.call_pure rfl (by decide) rfl rfl rfl rfl (fun _ => check_spec _ _) ?_)
                (refine US.on rfl rfl (by decide) rfl ?_; refine US.bin_int rfl (by decide) rfl rfl rfl rfl (r := .bool false) (by (simp [iop, sop, hc]; done)) ?_)
                (refine US.on rfl rfl (by decide) rfl ?_; refine US.pick rfl (by decide) rfl rfl rfl rfl ?_)
                refine Q.pk rfl rfl <| Q.as rfl <| Q.nt <| UW.cond rfl (fun h => absurd h (by simp)) fun _ => ?_
                refine Q.rg <| ?_
                by_cases hk4 : k < 4
                · by_cases hv0 : (0 : Int) < (encVs vs).length
                  · refine US.fieldAddr rfl (by decide) rfl rfl rfl f27_0 <| Q.lc 0 ty3 rfl rfl rfl <| US.bin_int rfl (by decide) rfl rfl rfl rfl (r := .bool true) (by (simp [iop, sop, hk4]; done)) <| ?_
                    refine Q.mv rfl <| ?_
                    (refine US.on rfl rfl (by decide) rfl ?_; refine US.fieldAddr rfl (by decide) rfl rfl rfl f27_4 ?_)
                    (refine US.on rfl rfl (by decide) rfl ?_; refine US.ld_cell rfl (by decide) rfl rfl ty25 rfl (k := 0) rfl rfl ?_)
                    (refine US.on rfl rfl (by decide) rfl ?_; refine US.len_sl rfl (by decide) rfl rfl sl25 rfl ?_)
                    (refine US.on rfl rfl (by decide) rfl ?_; refine US.bin_int rfl (by decide) rfl rfl rfl rfl (r := .bool true) (by (simp [iop, sop]; omega)) ?_)
                    refine Q.pk rfl rfl <| Q.as rfl <| Q.nt <| ?_
                    refine UW.cond rfl (fun _ => ?_) (fun h => absurd h (by simp))
                    refine Q.rg <| Q.as rfl <| Q.nt <| UW.ret <| UQ.blockR <| UQ.passR <| ?_
                    refine retR [] (fun _ => res_tmp rfl rfl) (by simp) fun hd => ⟨?_, rfl⟩
                    rw [show rightV (.mk k n t ks vs) = false from by rw [rightV, decide_eq_true hk4, decide_eq_true (by omega : (0 : Int) < vs.length)]; simp]
                  · have hall : rightV (.mk k n t ks vs) = rightsV vs := by rw [rightV, hnum, hkey, htext, decide_eq_true (by omega : 0 ≤ k), decide_eq_true (by omega : k ≤ 5), decide_eq_false (by omega : ¬ (0 : Int) < vs.length)]; simp
                    refine US.fieldAddr rfl (by decide) rfl rfl rfl f27_0 <| Q.lc 0 ty3 rfl rfl rfl <| US.bin_int rfl (by decide) rfl rfl rfl rfl (r := .bool true) (by (simp [iop, sop, hk4]; done)) <| ?_
                    refine Q.mv rfl <| ?_
                    (refine US.on rfl rfl (by decide) rfl ?_; refine US.fieldAddr rfl (by decide) rfl rfl rfl f27_4 ?_)
                    (refine US.on rfl rfl (by decide) rfl ?_; refine US.ld_cell rfl (by decide) rfl rfl ty25 rfl (k := 0) rfl rfl ?_)
                    (refine US.on rfl rfl (by decide) rfl ?_; refine US.len_sl rfl (by decide) rfl rfl sl25 rfl ?_)
                    (refine US.on rfl rfl (by decide) rfl ?_; refine US.bin_int rfl (by decide) rfl rfl rfl rfl (r := .bool false) (by exact congrArg (fun b => some (Value.bool b)) (decide_eq_false hv0)) ?_)
                    refine Q.pk rfl rfl <| Q.as rfl <| Q.nt <| UW.cond rfl (fun h => absurd h (by simp)) fun _ => ?_
                    refine UW.skip <| UQ.blockN <| UQ.then <| Q.rg <| US.fieldAddr rfl (by decide) rfl rfl rfl f27_4 <| Q.lc 0 ty25 rfl rfl rfl <| US.makeFunc rfl (by decide) rfl rfl rfl <| US.call_pure rfl (by decide) rfl rfl rfl rfl (fun hd => containsFunc_spec vs _ [.ptr p 0] (fun x => !rightV x) h2 _ (fun x hx H' hs => right11_spec x p H' (hs _ _ (hd.old hp)) (fun H'' h => ih x hx H'' h))) <| US.not rfl (by decide) rfl rfl rfl <| Q.as rfl <| Q.nt <| UW.ret <| ?_
                    refine retR [] (fun _ => res_tmp rfl rfl) (by simp) fun hd => ⟨?_, rfl⟩
                    rw [hall, rightsV_eq]
                · have hall : rightV (.mk k n t ks vs) = rightsV vs := by rw [rightV, hnum, hkey, htext, decide_eq_true (by omega : 0 ≤ k), decide_eq_true (by omega : k ≤ 5), decide_eq_false hk4]; simp
                  refine US.fieldAddr rfl (by decide) rfl rfl rfl f27_0 <| Q.lc 0 ty3 rfl rfl rfl <| US.bin_int rfl (by decide) rfl rfl rfl rfl (r := .bool false) (by (simp [iop, sop, hk4]; done)) <| ?_
                  refine Q.mv rfl <| Q.of <| Q.of <| Q.of <| Q.of <| Q.pk rfl rfl <| Q.as rfl <| Q.nt <| UW.cond rfl (fun h => absurd h (by simp)) fun _ => ?_
                  refine UW.skip <| UQ.blockN <| UQ.then <| Q.rg <| US.fieldAddr rfl (by decide) rfl rfl rfl f27_4 <| Q.lc 0 ty25 rfl rfl rfl <| US.makeFunc rfl (by decide) rfl rfl rfl <| US.call_pure rfl (by decide) rfl rfl rfl rfl (fun hd => containsFunc_spec vs _ [.ptr p 0] (fun x => !rightV x) h2 _ (fun x hx H' hs => right11_spec x p H' (hs _ _ (hd.old hp)) (fun H'' h => ih x hx H'' h))) <| US.not rfl (by decide) rfl rfl rfl <| Q.as rfl <| Q.nt <| UW.ret <| ?_
                  refine retR [] (fun _ => res_tmp rfl rfl) (by simp) fun hd => ⟨?_, rfl⟩
                  rw [hall, rightsV_eq]
            · refine US.fieldAddr rfl (by decide) rfl rfl rfl f27_2 <| Q.lc 0 ty9 rfl rfl rfl <| US.bin_str rfl (by decide) rfl rfl rfl rfl (r := true) (congrArg some hne) <| Q.mv rfl <| ?_
              (refine US.on rfl rfl (by decide) rfl ?_; refine US.fieldAddr rfl (by decide) rfl rfl rfl f27_0 ?_)
              (refine US.on rfl rfl (by decide) rfl ?_; refine US.ld_cell rfl (by decide) rfl rfl ty3 rfl (k := 0) rfl rfl ?_)
              (refine US.on rfl rfl (by decide) rfl ?_; refine US.bin_int rfl (by decide) rfl rfl rfl rfl (r := .bool true) (by (simp [iop, sop, h3]; done)) ?_)
              (refine US.on rfl rfl (by decide) rfl ?_; refine US.move rfl (by decide) rfl rfl rfl ?_)
              refine Q.of <| Q.of <| Q.of <| Q.of <| ?_
              (refine US.on rfl rfl (by decide) rfl ?_; refine US.pick rfl (by decide) rfl rfl rfl rfl ?_)
              refine Q.pk rfl rfl <| Q.as rfl <| Q.nt <| ?_
              refine UW.cond rfl (fun _ => ?_) (fun h => absurd h (by simp))
              refine Q.rg <| Q.as rfl <| Q.nt <| UW.ret <| UQ.blockR <| UQ.passR <| ?_
              refine retR [] (fun _ => res_tmp rfl rfl) (by simp) fun hd => ⟨?_, rfl⟩
              rw [show rightV (.mk k n t ks vs) = false from by rw [rightV, hne, show (k == 3) = false from by simp [h3]]; simp]
theorem right_spec (x : V) (hx : Fits x) (H : Hp) : ACall Try.prog 12 [.agg (encV x)] H (IsR H (.v (.bool (rightV x)))) := by
  refine UCall (n := 8) (H0 := H) (objs := []) Try.func12 (by kernel_rfl) rfl (by rw [Try.ntmps12]; rfl) .nil <| ?_
  refine Q.rg <| US.box rfl (by decide) rfl rfl rfl rfl (by exact encV_cell _) fun p1 => ?_
  refine Q.as rfl <| Q.nt <| Q.rg <| US.alloc' rfl (by decide) rfl rfl z23 rfl rfl rfl fun p3 => Q.nt <| Q.rg <| US.makeFunc rfl (by decide) rfl rfl rfl <| US.st_box rfl rfl rfl ty23 rfl (k := 0) rfl rfl rfl (by rfl) (by rfl) rfl rfl <| ?_
  refine Q.nt <| Q.rg <| Q.lc 0 ty23 rfl rfl rfl <| US.ld_whole rfl (by decide) rfl rfl ty27 rfl (k := 1) rfl (by exact encV_len _) <| ?_
  refine US.call_pure rfl (by decide) rfl rfl rfl rfl (fun hd => right1_spec x hx p3 _ (hd.at_ (k := 0) rfl)) <| Q.as rfl <| Q.nt <| UW.ret <| ?_
  exact retR [] (fun _ => res_tmp rfl rfl) (by simp) fun hd => ⟨rfl, rfl⟩
end Go.Proofs.Ytopaddebalfoeaa
