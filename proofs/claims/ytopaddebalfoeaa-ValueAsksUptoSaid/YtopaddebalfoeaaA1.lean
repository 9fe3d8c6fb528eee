/- How much there is of a value: what it computes. -/
import Derived.Test.YtopaddebalfoeaaL5
namespace Go.Proofs.Ytopaddebalfoeaa
open Go Go.RowKit Go.Eng
set_option linter.unusedSimpArgs false
set_option linter.unusedVariables false
set_option maxRecDepth 100000
set_option maxHeartbeats 4000000
/-- Of texts, of values: none too long. -/
inductive Sz : V → Prop
  | mk (k n : Int) (t : ByteArray) (ks : List ByteArray) (vs : List V) (h1 : ks.length ≤ 4000000) (h2 : vs.length ≤ 4000000) (h3 : t.size ≤ 4000000) (h4 : ∀ s ∈ ks, s.size ≤ 4000000) (h : ∀ x ∈ vs, Sz x) : Sz (.mk k n t ks vs)
def leftK : List ByteArray → Int → Int
  | [], m => m
  | s :: r, m => if 0 ≤ m then leftK r (m - (1 + (s.size : Int))) else m
mutual
def leftV : V → Int → Int
  | .mk _ _ t ks vs, m => leftVs vs (leftK ks (m - (1 + (t.size : Int))))
def leftVs : List V → Int → Int
  | [], m => m
  | x :: r, m => if 0 ≤ m then leftVs r (leftV x m) else m
end
theorem leftK_stop {l : List ByteArray} {m : Int} (h : m < 0) : leftK l m = m := by
  cases l with
  | nil => rfl
  | cons s r => rw [leftK, if_neg (by omega)]
theorem leftVs_stop {l : List V} {m : Int} (h : m < 0) : leftVs l m = m := by
  cases l with
  | nil => rw [leftVs]
  | cons s r => rw [leftVs, if_neg (by omega)]
theorem leftK_bd : ∀ (l : List ByteArray) (m : Int), (∀ s ∈ l, s.size ≤ 4000000) → -4000001 ≤ m → m ≤ 1000 → -4000001 ≤ leftK l m ∧ leftK l m ≤ 1000
  | [], m, _, h1, h2 => ⟨h1, h2⟩
  | s :: r, m, h, h1, h2 => by
    rw [leftK]
    split
    · have := h s (by simp)
      exact leftK_bd r _ (fun x hx => h x (by simp [hx])) (by omega) (by omega)
    · exact ⟨h1, h2⟩
theorem leftVs_bd : ∀ (l : List V) (m : Int), (∀ x ∈ l, ∀ m, -4000001 ≤ m → m ≤ 1000 → -4000001 ≤ leftV x m ∧ leftV x m ≤ 1000) → -4000001 ≤ m → m ≤ 1000 → -4000001 ≤ leftVs l m ∧ leftVs l m ≤ 1000
  | [], m, _, h1, h2 => by rw [leftVs]; exact ⟨h1, h2⟩
  | x :: r, m, h, h1, h2 => by
    rw [leftVs]
    split
    · have := h x (by simp) m h1 h2
      exact leftVs_bd r _ (fun y hy => h y (by simp [hy])) this.1 this.2
    · exact ⟨h1, h2⟩
theorem leftV_bd (x : V) (hx : Sz x) : ∀ m, 0 ≤ m → m ≤ 1000 → -4000001 ≤ leftV x m ∧ leftV x m ≤ 1000 := by
  induction hx with
  | mk k n t ks vs h1 h2 h3 h4 h ih =>
  intro m m0 m1
  rw [leftV]
  have hk := leftK_bd ks (m - (1 + (t.size : Int))) h4 (by omega) (by omega)
  generalize leftK ks (m - (1 + (t.size : Int))) = q at *
  have : ∀ (l : List V) (m : Int), (∀ x ∈ l, x ∈ vs) → -4000001 ≤ m → m ≤ 1000 → -4000001 ≤ leftVs l m ∧ leftVs l m ≤ 1000 := by
    intro l
    induction l with
    | nil => intro m _ a b; rw [leftVs]; exact ⟨a, b⟩
    | cons x r ih2 =>
      intro m hm a b
      rw [leftVs]
      split
      · have := ih x (hm x (by simp)) m (by omega) b
        exact ih2 _ (fun y hy => hm y (by simp [hy])) this.1 this.2
      · exact ⟨a, b⟩
  exact this vs q (fun x hx => hx) hk.1 hk.2
/-- The keys from the j-th on. -/
theorem leftK_at {l : List ByteArray} {j : Nat} (hj : j < l.length) {m : Int} (hm : 0 ≤ m) : leftK (l.drop j) m = leftK (l.drop (j + 1)) (m - (1 + ((l[j]).size : Int))) := by
  rw [List.drop_eq_getElem_cons hj, leftK, if_pos hm]
theorem leftVs_at {l : List V} {j : Nat} (hj : j < l.length) {m : Int} (hm : 0 ≤ m) : leftVs (l.drop j) m = leftVs (l.drop (j + 1)) (leftV l[j] m) := by
  rw [List.drop_eq_getElem_cons hj, leftVs, if_pos hm]
theorem leftK_end {l : List ByteArray} {j : Nat} (hj : l.length ≤ j) {m : Int} : leftK (l.drop j) m = m := by
  rw [List.drop_of_length_le hj]; rfl
theorem leftVs_end {l : List V} {j : Nat} (hj : l.length ≤ j) {m : Int} : leftVs (l.drop j) m = m := by
  rw [List.drop_of_length_le hj, leftVs]
theorem left_spec (x : V) (hx : Sz x) : ∀ (m : Int) (m0 : 0 ≤ m) (m1 : m ≤ 1000) (H : Hp), ACall Try.prog 58 [.agg (encV x), .v (.int .i64 m)] H (IsR H (.v (.int .i64 (leftV x m)))) := by
  induction hx with
  | mk k n t ks vs h1 h2 h3 h4 h ih =>
  intro m m0 m1 H
  have hkl : (ks.map encS).length = ks.length := List.length_map ..
  have hvl := encVs_len vs
  have hbk := leftK_bd ks (m - (1 + (t.size : Int))) h4 (by omega) (by omega)
  have hbv : ∀ j (hj : j < vs.length) m, 0 ≤ m → m ≤ 1000 → -4000001 ≤ leftV vs[j] m ∧ leftV vs[j] m ≤ 1000 := fun j hj => leftV_bd _ (h _ (List.getElem_mem hj))
  have hfin : leftV (.mk k n t ks vs) m = leftVs vs (leftK ks (m - (1 + (t.size : Int)))) := by rw [leftV]
  rw [hfin]
  clear hfin
  refine UCall (n := 52) (H0 := H) (objs := []) Try.func58 (by kernel_rfl) rfl (by rw [Try.ntmps58]; rfl) .nil <| ?_
  focus
    refine Q.rg <| S.dd <| D.box rfl rfl rfl fun p2 => Q.as rfl <| Q.nt <| Q.rg <| Q.mv rfl <| Q.fa f27_2 rfl <| Q.lc 0 ty9 rfl rfl rfl <| S.qu (Z.lnt Try.underlying9 rfl) <| S.qu (Z.add rfl rfl (IntWalk.i64_in _ (by omega))) <| S.qu (Z.sub rfl rfl (IntWalk.i64_in _ (by omega))) <| Q.as rfl <| Q.nt <| ?_
    refine S.cutA (fun q : Int => [(1, .v (.int .i64 q)), (2, .ptr p2 0)]) (fun _ => [(p2, .box 27 (encV (.mk k n t ks vs)))]) (fun q => q = leftK ks (m - (1 + (t.size : Int)))) ?_ (fun q hq => ?_)
    refine Q.rg <| Q.as rfl <| Q.nt <| UW.block <| ?_
    rotate_left
    refine S.sq <| Q.rg <| Q.as rfl <| Q.nt <| UW.block <| ?_
    rotate_left
  refine S.loop (fun s : Nat × Int => [(5, .v (.int .i64 (s.1 : Int))), (1, .v (.int .i64 s.2)), (2, .ptr p2 0)]) (fun _ => [(p2, .box 27 (encV (.mk k n t ks vs)))]) (fun s => s.1 ≤ ks.length ∧ leftK (ks.drop s.1) s.2 = leftK ks (m - (1 + (t.size : Int))) ∧ -4000001 ≤ s.2 ∧ s.2 ≤ 1000) (fun s => ks.length - s.1) (0, m - (1 + (t.size : Int))) ⟨Nat.zero_le _, rfl, by simp only; omega, by simp only; omega⟩ ⟨rfl, rfl, rfl, trivial⟩ (.refl _) <| ?_
  rintro ⟨j, q⟩ ⟨hj, hq, hq0, hq1⟩
  simp only at hj hq hq0 hq1
  simp only
  by_cases hjl : j < ks.length
  · by_cases hqn : 0 ≤ q
    · have hgl := strs_get ks j hjl
      have hsz := h4 _ (List.getElem_mem hjl)
      have hnx := leftK_at hjl hqn
      rw [hq] at hnx
      generalize ks[j] = s at *
      focus
        refine S.sq <| Q.rg <| Q.mv rfl <| Q.fa f27_3 rfl <| Q.lc 0 ty24 rfl rfl rfl <| S.qu (Z.lns sl24 rfl) <| Q.bi rfl rfl rfl <| Q.mv rfl <| ?_
        refine S.tD 18 (fun hc18 => ?_) (fun hc18 => ?_)
        rotate_left
        omega
        refine Q.on (Z.mv rfl) <| Q.on (Z.bi rfl rfl rfl) <| Q.pk rfl rfl <| Q.nt <| S.cT rfl (decide_eq_true (by omega)) <| UW.skip <| UQ.then <| S.sq <| UW.block <| S.rg <| Q.mv rfl <| Q.fa f27_3 rfl <| Q.lc 0 ty24 rfl rfl rfl <| Q.mv rfl <| S.qu (Z.ia sl24 rfl rfl (by omega) (by assumption) (by rfl)) <| ?_
        refine S.qu (Z.lpc ty9 rfl) <| S.qu (Z.lnt Try.underlying9 rfl) <| S.qu (Z.add rfl rfl (IntWalk.i64_in _ (by omega))) <| S.qu (Z.sub rfl rfl (IntWalk.i64_in _ (by omega))) <| Q.as rfl <| US.nil <| UQ.blockN <| UQ.then <| S.rg <| Q.mv rfl <| S.qu (Z.add (r := ((j + 1 : Nat) : Int)) rfl rfl (IntWalk.i64_in _ (by omega))) <| Q.as rfl <| US.nil <| ?_
        refine S.back (j + 1, q - (1 + (s.size : Int))) ⟨rfl, rfl, rfl, trivial⟩ (.refl _) ?_ (by omega)
      all_goals exact ⟨by simp only; omega, hnx.symm, by simp only; omega, by simp only; omega⟩
    · rw [leftK_stop (by omega)] at hq
      focus
        refine S.sq <| Q.rg <| Q.mv rfl <| Q.fa f27_3 rfl <| Q.lc 0 ty24 rfl rfl rfl <| S.qu (Z.lns sl24 rfl) <| Q.bi rfl rfl rfl <| Q.mv rfl <| ?_
        refine S.tD 18 (fun hc18 => ?_) (fun hc18 => ?_)
        rotate_left
        omega
        refine Q.on (Z.mv rfl) <| Q.on (Z.bi rfl rfl rfl) <| Q.pk rfl rfl <| Q.nt <| S.cF rfl (decide_eq_false (by omega)) <| UW.exit <| UQ.pass <| UQ.pass <| UQ.here <| ?_
        refine S.finA _ ⟨rfl, rfl, trivial⟩ (.refl _) hq
  · rw [leftK_end (by omega)] at hq
    refine S.sq <| Q.rg <| Q.mv rfl <| Q.fa f27_3 rfl <| Q.lc 0 ty24 rfl rfl rfl <| S.qu (Z.lns sl24 rfl) <| Q.bi rfl rfl rfl <| Q.mv rfl <| ?_
    refine S.tD 18 (fun hc18 => ?_) (fun hc18 => ?_)
    omega
    refine Q.of <| Q.of <| Q.pk rfl rfl <| Q.nt <| S.cF rfl rfl <| UW.exit <| UQ.pass <| UQ.pass <| UQ.here <| ?_
    refine S.finA _ ⟨rfl, rfl, trivial⟩ (.refl _) hq
  rw [← hq] at hbk ⊢
  clear hq
  refine S.loop (fun s : Nat × Int => [(6, .v (.int .i64 (s.1 : Int))), (1, .v (.int .i64 s.2)), (2, .ptr p2 0)]) (fun _ => [(p2, .box 27 (encV (.mk k n t ks vs)))]) (fun s => s.1 ≤ vs.length ∧ leftVs (vs.drop s.1) s.2 = leftVs vs q ∧ -4000001 ≤ s.2 ∧ s.2 ≤ 1000) (fun s => vs.length - s.1) (0, q) ⟨Nat.zero_le _, rfl, hbk.1, hbk.2⟩ ⟨rfl, rfl, rfl, trivial⟩ (.refl _) <| ?_
  rintro ⟨i, e⟩ ⟨hi, he, he0, he1⟩
  simp only at hi he he0 he1
  simp only
  by_cases hil : i < vs.length
  · by_cases hen : 0 ≤ e
    · have hgv := encVs_get vs i hil
      have hnx := leftVs_at hil hen
      rw [he] at hnx
      have hbv2 := hbv i hil e hen he1
      have hrec := fun H => ih _ (List.getElem_mem hil) e hen he1 H
      generalize vs[i] = s at *
      focus
        refine S.sq <| Q.rg <| Q.mv rfl <| Q.fa f27_4 rfl <| Q.lc 0 ty25 rfl rfl rfl <| S.qu (Z.lns sl25 rfl) <| Q.bi rfl rfl rfl <| Q.mv rfl <| ?_
        refine S.tD 38 (fun hc38 => ?_) (fun hc38 => ?_)
        rotate_left
        omega
        refine Q.on (Z.mv rfl) <| Q.on (Z.bi rfl rfl rfl) <| Q.pk rfl rfl <| Q.nt <| S.cT rfl (decide_eq_true (by omega)) <| UW.skip <| UQ.then <| S.sq <| UW.block <| S.rg <| Q.fa f27_4 rfl <| Q.lc 0 ty25 rfl rfl rfl <| Q.mv rfl <| S.qu (Z.ia sl25 rfl rfl (by omega) (by assumption) (by exact encV_len _)) <| ?_
        refine S.qu (Z.lpa ty27 rfl (encV_len _)) <| Q.mv rfl <| S.qu (Z.call rfl rfl hrec) <| Q.as rfl <| US.nil <| UQ.blockN <| UQ.then <| S.rg <| Q.mv rfl <| S.qu (Z.add (r := ((i + 1 : Nat) : Int)) rfl rfl (IntWalk.i64_in _ (by omega))) <| Q.as rfl <| US.nil <| ?_
        refine S.back (i + 1, leftV s e) ⟨rfl, rfl, rfl, trivial⟩ (.refl _) ?_ (by omega)
      all_goals exact ⟨by simp only; omega, hnx.symm, by simp only; omega, by simp only; omega⟩
    · rw [leftVs_stop (by omega)] at he
      rw [← he]
      focus
        refine S.sq <| Q.rg <| Q.mv rfl <| Q.fa f27_4 rfl <| Q.lc 0 ty25 rfl rfl rfl <| S.qu (Z.lns sl25 rfl) <| Q.bi rfl rfl rfl <| Q.mv rfl <| ?_
        refine S.tD 38 (fun hc38 => ?_) (fun hc38 => ?_)
        rotate_left
        omega
        refine Q.on (Z.mv rfl) <| Q.on (Z.bi rfl rfl rfl) <| Q.pk rfl rfl <| Q.nt <| S.cF rfl (decide_eq_false (by omega)) <| UW.exit <| UQ.pass <| UQ.pass <| UQ.here <| UQ.then <| Q.rg <| Q.mv rfl <| Q.as rfl <| Q.nt <| UW.ret <| S.rtR (fun _ => res_tmp rfl rfl) <| ?_
        rfl
  · rw [leftVs_end (by omega)] at he
    rw [← he]
    refine S.sq <| Q.rg <| Q.mv rfl <| Q.fa f27_4 rfl <| Q.lc 0 ty25 rfl rfl rfl <| S.qu (Z.lns sl25 rfl) <| Q.bi rfl rfl rfl <| Q.mv rfl <| ?_
    refine S.tD 38 (fun hc38 => ?_) (fun hc38 => ?_)
    omega
    refine Q.of <| Q.of <| Q.pk rfl rfl <| Q.nt <| S.cF rfl rfl <| UW.exit <| UQ.pass <| UQ.pass <| UQ.here <| UQ.then <| Q.rg <| Q.mv rfl <| Q.as rfl <| Q.nt <| UW.ret <| S.rtR (fun _ => res_tmp rfl rfl) <| ?_
    rfl
def weightV (x : V) : Int := 1000 - (if -1 > leftV x 1000 then -1 else leftV x 1000)
theorem weight_spec (x : V) (hx : Sz x) (H : Hp) : ACall Try.prog 26 [.agg (encV x)] H (IsR H (.v (.int .i64 (weightV x)))) := by
  have hb := leftV_bd x hx 1000 (by decide) (by decide)
  have hl := fun H => left_spec x hx 1000 (by decide) (by decide) H
  have hw : weightV x = 1000 - (if -1 > leftV x 1000 then -1 else leftV x 1000) := rfl
  generalize weightV x = w at *
  generalize leftV x 1000 = q at *
  obtain ⟨mx, hmx⟩ : ∃ mx, (if -1 > q then -1 else q) = mx := ⟨_, rfl⟩
  have hmb : -1 ≤ mx ∧ mx ≤ 1000 := by rw [← hmx]; split <;> omega
  rw [hmx] at hw
  subst hw
  refine UCall (n := 7) (H0 := H) (objs := []) Try.func26 (by kernel_rfl) rfl (by rw [Try.ntmps26]; rfl) .nil <| ?_
  refine Q.rg <| S.dd <| D.box rfl rfl (by exact encV_cell _) fun p1 => ?_
  refine Q.as rfl <| Q.nt <| Q.rg <| S.qu (Z.ldw 0 ty27 rfl rfl (encV_len _)) <| S.qu (Z.call rfl rfl hl) <| S.qu (Z.eq (u' := .v (.int .i64 mx)) (Z.max rfl rfl) (by rw [← hmx])) <| ?_
  refine S.qu (Z.sub rfl rfl (IntWalk.i64_in _ (by omega))) <| Q.as rfl <| Q.nt <| UW.ret <| S.rtR (fun _ => res_tmp rfl rfl) <| ?_
  rfl
end Go.Proofs.Ytopaddebalfoeaa
