/- The document's answers of layer 2: what they compute. -/
import Derived.Test.YtopaddebalfoeaaW1
import Derived.Test.YtopaddebalfoeaaVc
namespace Go.Proofs.Ytopaddebalfoeaa
open Go Go.RowKit Go.Eng
set_option linter.unusedSimpArgs false
set_option linter.unusedVariables false
set_option maxRecDepth 100000
/-! texts, one ahead of another -/
theorem cmp_skip : ∀ (k : Nat) (l r : List UInt8), k ≤ l.length → k ≤ r.length → (∀ j, j < k → l[j]? = r[j]?) → Lib.compareBytes l r = Lib.compareBytes (l.drop k) (r.drop k)
  | 0, l, r, _, _, _ => by simp
  | k + 1, [], r, h, _, _ => by simp at h
  | k + 1, _ :: _, [], _, h, _ => by simp at h
  | k + 1, a :: l, b :: r, h1, h2, h => by
    have h0 := h 0 (by omega)
    simp at h0
    subst h0
    have := cmp_skip k l r (by simpa using h1) (by simpa using h2) (fun j hj => by simpa using h (j + 1) (by omega))
    rw [List.drop_succ_cons, List.drop_succ_cons, ← this, Lib.compareBytes]
    simp
theorem bAt_nat (s : ByteArray) (k : Nat) (h : k < s.size) : bAt s (k : Int) = ((s.data.toList[k]'(by simpa using h)).toNat : Int) := by
  unfold bAt
  rw [dif_pos (by simpa using h)]
  rfl
theorem cmp_at (a b : ByteArray) (k : Nat) (ha : k < a.size) (hb : k < b.size) (h : ∀ j, j < k → bAt a (j : Int) = bAt b (j : Int)) (hne : ¬ bAt a (k : Int) = bAt b (k : Int)) : decide (cmpB a b < 0) = decide (bAt a (k : Int) < bAt b (k : Int)) := by
  have hal : k < a.data.toList.length := by simpa using ha
  have hbl : k < b.data.toList.length := by simpa using hb
  have e1 : cmpB a b = Lib.compareBytes (a.data.toList.drop k) (b.data.toList.drop k) := cmp_skip k _ _ (by omega) (by omega) (fun j hj => by
    have := h j hj
    rw [bAt_nat a j (by omega), bAt_nat b j (by omega)] at this
    rw [List.getElem?_eq_getElem (by omega), List.getElem?_eq_getElem (by omega)]
    congr 1
    exact UInt8.toNat_inj.1 (by omega))
  rw [bAt_nat a k ha, bAt_nat b k hb] at hne ⊢
  rw [e1, List.drop_eq_getElem_cons hal, List.drop_eq_getElem_cons hbl, Lib.compareBytes]
  generalize a.data.toList[k] = p at hne ⊢
  generalize b.data.toList[k] = q at hne ⊢
  by_cases h1 : p < q
  · have : p.toNat < q.toNat := h1
    rw [if_pos h1]; simp [this]
  · have h2 : ¬ p.toNat < q.toNat := h1
    have h3 : q < p := by show q.toNat < p.toNat; omega
    rw [if_neg h1, if_pos h3]; simp; omega
theorem cmp_end (a b : ByteArray) (k : Nat) (hk : k = min a.size b.size) (h : ∀ j, j < k → bAt a (j : Int) = bAt b (j : Int)) : decide (cmpB a b < 0) = decide ((a.size : Int) < b.size) := by
  have hal : a.data.toList.length = a.size := by simp
  have hbl : b.data.toList.length = b.size := by simp
  have e1 : cmpB a b = Lib.compareBytes (a.data.toList.drop k) (b.data.toList.drop k) := cmp_skip k _ _ (by omega) (by omega) (fun j hj => by
    have := h j hj
    rw [bAt_nat a j (by omega), bAt_nat b j (by omega)] at this
    rw [List.getElem?_eq_getElem (by omega), List.getElem?_eq_getElem (by omega)]
    congr 1
    exact UInt8.toNat_inj.1 (by omega))
  rw [e1]
  by_cases h1 : a.size < b.size
  · have e2 : a.data.toList.drop k = [] := List.drop_eq_nil_of_le (by omega)
    have e3 : k < b.data.toList.length := by omega
    rw [e2, List.drop_eq_getElem_cons e3, Lib.compareBytes]
    simp; omega
  · by_cases h2 : a.size = b.size
    · have e2 : a.data.toList.drop k = [] := List.drop_eq_nil_of_le (by omega)
      have e3 : b.data.toList.drop k = [] := List.drop_eq_nil_of_le (by omega)
      rw [e2, e3, Lib.compareBytes]; simp; omega
    · have e2 : b.data.toList.drop k = [] := List.drop_eq_nil_of_le (by omega)
      have e3 : k < a.data.toList.length := by omega
      rw [e2, List.drop_eq_getElem_cons e3, Lib.compareBytes]
      simp; omega
theorem lessR_spec (a b : ByteArray) (ha : a.size ≤ 4000000) (H : Hp) : ACall Try.prog 74 [.v (.string a), .v (.string b)] H (IsR H (.v (.bool (lessB a b)))) := by
  unfold lessB
  refine UCall (n := 37) (H0 := H) (objs := []) Try.func74 (by kernel_rfl) rfl (by rw [Try.ntmps74]; rfl) .nil <| ?_
  refine Q.rg <| Q.as rfl <| Q.nt <| S.sq <| Q.rg <| Q.as rfl <| Q.nt <| UW.block <| S.loop (fun k : Nat => [(5, .v (.int .i64 (k : Int))), (0, .v (.string a)), (1, .v (.string b))]) (fun _ => []) (fun k => k ≤ a.size ∧ k ≤ b.size ∧ ∀ j, j < k → bAt a (j : Int) = bAt b (j : Int)) (fun k => a.size - k) 0 ⟨Nat.zero_le _, Nat.zero_le _, fun j h => absurd h (by omega)⟩ ⟨rfl, rfl, rfl, trivial⟩ (.refl _) <| ?_
  rintro k ⟨hk, hkb, hj⟩
  by_cases hlt : k < a.size
  · by_cases hlt2 : k < b.size
    · by_cases hne : bAt a (k : Int) = bAt b (k : Int)
      · focus
          refine S.sq <| Q.rg <| Q.mv rfl <| Q.mv rfl <| S.qu (Z.lnt Try.underlying9 rfl) <| Q.bi rfl rfl rfl <| Q.mv rfl <| ?_
          refine S.tD 10 (fun hc10 => ?_) (fun hc10 => ?_)
          rotate_left
          omega
          refine Q.on (Z.mv rfl) <| Q.on (Z.mv rfl) <| Q.on (Z.lnt Try.underlying9 rfl) <| Q.on (Z.bi rfl rfl rfl) <| Q.pk rfl rfl <| Q.nt <| S.cT rfl (decide_eq_true (by omega)) <| UW.skip <| UQ.then <| S.sq <| UW.block <| S.sq <| ?_
          refine' UW.draw' (by kernel_rfl) [0, 0, 3, 0, 0, 24, 63] [some 18, some 19, some 20, some 21, some 22, some 23, some 24] [some (18, _), some (19, _), some (20, _), some (21, _), some (22, _), some (23, _), some (24, _)] [] [] rfl (by decide) (by decide) (QAll.free (by decide) rfl rfl ?q1x0_0 (QAll.free (by decide) rfl rfl ?q1x0_1 (QAll.free (by decide) rfl rfl ?q1x0_2 (QAll.free (by decide) rfl rfl ?q1x0_3 (QAll.free (by decide) rfl rfl ?q1x0_4 (QAll.free (by decide) rfl rfl ?q1x0_5 (QAll.free (by decide) rfl rfl ?q1x0_6 QAll.nil))))))) ?q1x0_k
          case q1x0_0 => exact fun _ => Z.mv rfl
          case q1x0_1 => exact fun _ => Z.mv rfl
          case q1x0_2 => exact fun _ => Z.is Try.underlying9 rfl rfl (by omega) (by omega)
          case q1x0_3 => exact fun _ => Z.mv rfl
          case q1x0_4 => exact fun _ => Z.mv rfl
          case q1x0_5 => exact fun _ => Z.is Try.underlying9 rfl rfl (by omega) (by omega)
          case q1x0_6 => exact fun _ => Z.bi rfl rfl rfl
          refine CH.nil <| ?_
          simp only [app, finL]
          refine UQ.then <| S.cF rfl (bne_f (by omega)) <| UW.skip <| UQ.blockN <| UQ.then <| S.rg <| Q.mv rfl <| S.qu (Z.add (r := ((k + 1 : Nat) : Int)) rfl rfl (IntWalk.i64_in _ (by omega))) <| Q.as rfl <| US.nil <| ?_
          refine S.back _ ⟨rfl, rfl, rfl, trivial⟩ (.refl _) ?_ (by omega)
        refine ⟨by omega, by omega, fun j h3 => ?_⟩
        by_cases hjk : j = k
        · subst hjk; exact hne
        · exact hj j (by omega)
      · focus
          refine S.sq <| Q.rg <| Q.mv rfl <| Q.mv rfl <| S.qu (Z.lnt Try.underlying9 rfl) <| Q.bi rfl rfl rfl <| Q.mv rfl <| ?_
          refine S.tD 10 (fun hc10 => ?_) (fun hc10 => ?_)
          rotate_left
          omega
          refine Q.on (Z.mv rfl) <| Q.on (Z.mv rfl) <| Q.on (Z.lnt Try.underlying9 rfl) <| Q.on (Z.bi rfl rfl rfl) <| Q.pk rfl rfl <| Q.nt <| S.cT rfl (decide_eq_true (by omega)) <| UW.skip <| UQ.then <| S.sq <| UW.block <| S.sq <| ?_
          refine' UW.draw' (by kernel_rfl) [0, 0, 3, 0, 0, 24, 63] [some 18, some 19, some 20, some 21, some 22, some 23, some 24] [some (18, _), some (19, _), some (20, _), some (21, _), some (22, _), some (23, _), some (24, _)] [] [] rfl (by decide) (by decide) (QAll.free (by decide) rfl rfl ?q2x0_0 (QAll.free (by decide) rfl rfl ?q2x0_1 (QAll.free (by decide) rfl rfl ?q2x0_2 (QAll.free (by decide) rfl rfl ?q2x0_3 (QAll.free (by decide) rfl rfl ?q2x0_4 (QAll.free (by decide) rfl rfl ?q2x0_5 (QAll.free (by decide) rfl rfl ?q2x0_6 QAll.nil))))))) ?q2x0_k
          case q2x0_0 => exact fun _ => Z.mv rfl
          case q2x0_1 => exact fun _ => Z.mv rfl
          case q2x0_2 => exact fun _ => Z.is Try.underlying9 rfl rfl (by omega) (by omega)
          case q2x0_3 => exact fun _ => Z.mv rfl
          case q2x0_4 => exact fun _ => Z.mv rfl
          case q2x0_5 => exact fun _ => Z.is Try.underlying9 rfl rfl (by omega) (by omega)
          case q2x0_6 => exact fun _ => Z.bi rfl rfl rfl
          refine CH.nil <| ?_
          simp only [app, finL]
          refine UQ.then <| S.cT rfl (bne_t (by omega)) <| S.sq <| ?_
          refine' UW.draw' (by kernel_rfl) [0, 0, 3, 0, 0, 24, 63, 127] [some 25, some 26, some 27, some 28, some 29, some 30, some 31, some 4] [some (25, _), some (26, _), some (27, _), some (28, _), some (29, _), some (30, _), some (31, _), some (4, _)] [] [] rfl (by decide) (by decide) (QAll.free (by decide) rfl rfl ?q2x1_0 (QAll.free (by decide) rfl rfl ?q2x1_1 (QAll.free (by decide) rfl rfl ?q2x1_2 (QAll.free (by decide) rfl rfl ?q2x1_3 (QAll.free (by decide) rfl rfl ?q2x1_4 (QAll.free (by decide) rfl rfl ?q2x1_5 (QAll.free (by decide) rfl rfl ?q2x1_6 (QAll.free (by decide) rfl rfl ?q2x1_7 QAll.nil)))))))) ?q2x1_k
          case q2x1_0 => exact fun _ => Z.mv rfl
          case q2x1_1 => exact fun _ => Z.mv rfl
          case q2x1_2 => exact fun _ => Z.is Try.underlying9 rfl rfl (by omega) (by omega)
          case q2x1_3 => exact fun _ => Z.mv rfl
          case q2x1_4 => exact fun _ => Z.mv rfl
          case q2x1_5 => exact fun _ => Z.is Try.underlying9 rfl rfl (by omega) (by omega)
          case q2x1_6 => exact fun _ => Z.bi rfl rfl rfl
          case q2x1_7 => exact fun _ => Z.as rfl
          refine CH.nil <| ?_
          simp only [app, finL]
          refine UQ.then <| UW.ret <| UQ.blockR <| UQ.passR <| UQ.passR <| UQ.blockR <| UQ.passR <| S.rtR (fun _ => res_tmp rfl rfl) <| ?_
        rw [cmp_at a b k hlt hlt2 hj hne]
    · focus
        refine S.sq <| Q.rg <| Q.mv rfl <| Q.mv rfl <| S.qu (Z.lnt Try.underlying9 rfl) <| Q.bi rfl rfl rfl <| Q.mv rfl <| ?_
        refine S.tD 10 (fun hc10 => ?_) (fun hc10 => ?_)
        rotate_left
        omega
        refine Q.on (Z.mv rfl) <| Q.on (Z.mv rfl) <| Q.on (Z.lnt Try.underlying9 rfl) <| Q.on (Z.bi rfl rfl rfl) <| Q.pk rfl rfl <| Q.nt <| S.cF rfl (decide_eq_false (by omega)) <| UW.exit <| UQ.pass <| UQ.pass <| UQ.here <| UQ.then <| Q.rg <| Q.mv rfl <| S.qu (Z.lnt Try.underlying9 rfl) <| Q.mv rfl <| S.qu (Z.lnt Try.underlying9 rfl) <| Q.bi rfl rfl rfl <| Q.as rfl <| Q.nt <| UW.ret <| S.rtR (fun _ => res_tmp rfl rfl) <| ?_
      rw [cmp_end a b k (by omega) hj]
  · refine S.sq <| Q.rg <| Q.mv rfl <| Q.mv rfl <| S.qu (Z.lnt Try.underlying9 rfl) <| Q.bi rfl rfl rfl <| Q.mv rfl <| ?_
    refine S.tD 10 (fun hc10 => ?_) (fun hc10 => ?_)
    omega
    refine Q.of <| Q.of <| Q.of <| Q.of <| Q.pk rfl rfl <| Q.nt <| S.cF rfl rfl <| UW.exit <| UQ.pass <| UQ.pass <| UQ.here <| UQ.then <| Q.rg <| Q.mv rfl <| S.qu (Z.lnt Try.underlying9 rfl) <| Q.mv rfl <| S.qu (Z.lnt Try.underlying9 rfl) <| Q.bi rfl rfl rfl <| Q.as rfl <| Q.nt <| UW.ret <| S.rtR (fun _ => res_tmp rfl rfl) <| ?_
    rw [cmp_end a b k (by omega) hj]
/-! lists of texts -/
theorem stringsR_spec (l r : List ByteArray) (hl : l.length ≤ 1000000) (H : Hp) : ACall Try.prog 59 [strs l, strs r] H (IsR H (.v (.bool (eqBy eqT l r)))) := by
  have hml : (l.map encS).length = l.length := List.length_map ..
  have hmr : (r.map encS).length = r.length := List.length_map ..
  refine UCall (n := 26) (H0 := H) (objs := []) Try.func59 (by kernel_rfl) rfl (by rw [Try.ntmps59]; rfl) .nil <| ?_
  by_cases hlen : l.length = r.length
  · refine Q.rg <| Q.as rfl <| Q.nt <| S.sq <| Q.rg <| Q.mv rfl <| S.qu (Z.lns sl24 rfl) <| Q.mv rfl <| S.qu (Z.lns sl24 rfl) <| Q.bi rfl rfl rfl <| Q.nt <| S.cF rfl (bne_f (by omega)) <| UW.skip <| UQ.then <| S.sq <| Q.rg <| Q.as rfl <| Q.nt <| UW.block <| S.loop (fun k : Nat => [(5, .v (.int .i64 (k : Int))), (0, strs l), (1, strs r)]) (fun _ => []) (fun k => k ≤ l.length ∧ ∀ (j : Nat) (h : j < l.length) (h' : j < r.length), j < k → eqT l[j] r[j] = true) (fun k => l.length - k) 0 ⟨Nat.zero_le _, fun j _ _ h => absurd h (by omega)⟩ ⟨rfl, rfl, rfl, trivial⟩ (.refl _) <| ?_
    rintro k ⟨hk, hj⟩
    by_cases hlt : k < l.length
    · have hgr := strs_get r k (by omega)
      focus
        refine S.sq <| Q.rg <| Q.mv rfl <| Q.mv rfl <| S.qu (Z.lns sl24 rfl) <| Q.bi rfl rfl rfl <| Q.nt <| S.cT rfl (decide_eq_true (by omega)) <| UW.skip <| UQ.then <| S.sq <| UW.block <| S.sq <| ?_
        refine' UW.draw' (by kernel_rfl) [0, 0, 3, 7, 0, 0, 48, 112, 255] [some 17, some 18, some 19, some 20, some 21, some 22, some 23, some 24, some 25] [some (17, _), some (18, _), some (19, _), some (20, _), some (21, _), some (22, _), some (23, _), some (24, _), some (25, _)] [] [3, 7] rfl (by decide) (by decide) (QAll.free (by decide) rfl rfl ?q6x0_0 (QAll.free (by decide) rfl rfl ?q6x0_1 (QAll.free (by decide) rfl rfl ?q6x0_2 (QAll.held (by decide) rfl rfl ?q6x0_3 (QAll.free (by decide) rfl rfl ?q6x0_4 (QAll.free (by decide) rfl rfl ?q6x0_5 (QAll.free (by decide) rfl rfl ?q6x0_6 (QAll.held (by decide) rfl rfl ?q6x0_7 (QAll.free (by decide) rfl rfl ?q6x0_8 QAll.nil))))))))) ?q6x0_k
        case q6x0_0 => exact fun _ => Z.mv rfl
        case q6x0_1 => exact fun _ => Z.mv rfl
        case q6x0_2 => exact fun _ => Z.ia sl24 rfl rfl (by omega) (strs_get _ _ (by omega)) (by rfl)
        case q6x0_3 => exact Z.lpc ty9 rfl
        case q6x0_4 => exact fun _ => Z.mv rfl
        case q6x0_5 => exact fun _ => Z.mv rfl
        case q6x0_6 => exact fun _ => Z.ia sl24 rfl rfl (by omega) (by assumption) (by rfl)
        case q6x0_7 => exact Z.lpc ty9 rfl
        case q6x0_8 => exact fun _ => Z.bs rfl rfl rfl
        refine CH.nil <| ?_
        simp only [app, finL]
        refine UQ.then <| ?_
        refine S.cO rfl (fun hc25 => ?_) (fun hc25 => ?_)
        refine Q.rg <| Q.as rfl <| Q.nt <| UW.ret <| UQ.blockR <| UQ.passR <| UQ.passR <| UQ.blockR <| UQ.passR <| S.rtR (fun _ => res_tmp rfl rfl) <| ?_
        rotate_left
        refine UW.skip <| UQ.blockN <| UQ.then <| S.rg <| Q.mv rfl <| S.qu (Z.add (r := ((k + 1 : Nat) : Int)) rfl rfl (IntWalk.i64_in _ (by omega))) <| Q.as rfl <| US.nil <| ?_
        refine S.back _ ⟨rfl, rfl, rfl, trivial⟩ (.refl _) ?_ (by omega)
        rotate_left
      · rw [eqBy_at k hlt (by omega) (by unfold eqT; simpa using hc25)]
      · refine ⟨by omega, fun j h3 h4 h5 => ?_⟩
        by_cases hjk : j = k
        · subst hjk; unfold eqT; simpa using hc25
        · exact hj j h3 h4 (by omega)
    · refine S.sq <| Q.rg <| Q.mv rfl <| Q.mv rfl <| S.qu (Z.lns sl24 rfl) <| Q.bi rfl rfl rfl <| Q.nt <| S.cF rfl (decide_eq_false (by omega)) <| UW.exit <| UQ.pass <| UQ.pass <| UQ.here <| UQ.then <| Q.rg <| Q.as rfl <| Q.nt <| UW.ret <| S.rtR (fun _ => res_tmp rfl rfl) <| ?_
      rw [eqBy_true hlen (fun i h1 h2 => hj i h1 h2 (by omega))]
  · refine Q.rg <| Q.as rfl <| Q.nt <| S.sq <| Q.rg <| Q.mv rfl <| S.qu (Z.lns sl24 rfl) <| Q.mv rfl <| S.qu (Z.lns sl24 rfl) <| Q.bi rfl rfl rfl <| Q.nt <| S.cT rfl (bne_t (by omega)) <| Q.rg <| Q.as rfl <| Q.nt <| UW.ret <| UQ.passR <| S.rtR (fun _ => res_tmp rfl rfl) <| ?_
    rw [eqBy_len hlen]
end Go.Proofs.Ytopaddebalfoeaa
