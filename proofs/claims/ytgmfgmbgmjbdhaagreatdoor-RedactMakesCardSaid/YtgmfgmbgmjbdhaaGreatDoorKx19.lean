/- The document's answers of layer 2: what they compute. · Quoted texts: the program's and the document's answer's. · Quoted texts: Quote of the program and of the document's answer. · Calls that read package variables: known blocks that every heap on the way holds. -/
import Derived.Test.YtgmfgmbgmjbdhaaGreatDoorKx16
import Derived.Test.YtgmfgmbgmjbdhaaGreatDoorKx18
import Derived.Test.YtgmfgmbgmjbdhaaGreatDoorKx13
section
namespace Go.Proofs.YtgmfgmbgmjbdhaaGreatDoor
open Go Go.RowKit Go.Eng
set_option linter.unusedSimpArgs false
set_option linter.unusedVariables false
set_option maxRecDepth 100000
theorem cmp_skip : ∀ (k : Nat) (l r : List UInt8), k ≤ l.length → k ≤ r.length → (∀ j, j < k → l[j]? = r[j]?) → Lib.compareBytes l r = Lib.compareBytes (l.drop k) (r.drop k)
  | 0, l, r, _, _, _ => by simp
  | k + 1, [], r, h, _, _ => by simp at h
  | k + 1, _ :: _, [], _, h, _ => by simp at h
  | k + 1, a :: l, b :: r, h1, h2, h => by
    have h0 := h 0 (by omega)
    simp at h0
    subst h0
    have := cmp_skip k l r (by simpa using h1) (by simpa using h2) (fun j hj => by simpa using h (j + 1) (by omega))
    rw [List.drop_succ_cons, List.drop_succ_cons, ← this, Lib.compareBytes]
    simp
theorem bAt_nat (s : ByteArray) (k : Nat) (h : k < s.size) : bAt s (k : Int) = ((s.data.toList[k]'(by simpa using h)).toNat : Int) := by
  unfold bAt
  rw [dif_pos (by simpa using h)]
  rfl
theorem cmp_at (a b : ByteArray) (k : Nat) (ha : k < a.size) (hb : k < b.size) (h : ∀ j, j < k → bAt a (j : Int) = bAt b (j : Int)) (hne : ¬ bAt a (k : Int) = bAt b (k : Int)) : decide (cmpB a b < 0) = decide (bAt a (k : Int) < bAt b (k : Int)) := by
  have hal : k < a.data.toList.length := by simpa using ha
  have hbl : k < b.data.toList.length := by simpa using hb
  have e1 : cmpB a b = Lib.compareBytes (a.data.toList.drop k) (b.data.toList.drop k) := cmp_skip k _ _ (by omega) (by omega) (fun j hj => by
    have := h j hj
    rw [bAt_nat a j (by omega), bAt_nat b j (by omega)] at this
    rw [List.getElem?_eq_getElem (by omega), List.getElem?_eq_getElem (by omega)]
    congr 1
    exact UInt8.toNat_inj.1 (by omega))
  rw [bAt_nat a k ha, bAt_nat b k hb] at hne ⊢
  rw [e1, List.drop_eq_getElem_cons hal, List.drop_eq_getElem_cons hbl, Lib.compareBytes]
  generalize a.data.toList[k] = p at hne ⊢
  generalize b.data.toList[k] = q at hne ⊢
  by_cases h1 : p < q
  · have : p.toNat < q.toNat := h1
    rw [if_pos h1]; simp [this]
  · have h2 : ¬ p.toNat < q.toNat := h1
    have h3 : q < p := by show q.toNat < p.toNat; omega
    rw [if_neg h1, if_pos h3]; simp; omega
theorem cmp_end (a b : ByteArray) (k : Nat) (hk : k = min a.size b.size) (h : ∀ j, j < k → bAt a (j : Int) = bAt b (j : Int)) : decide (cmpB a b < 0) = decide ((a.size : Int) < b.size) := by
  have hal : a.data.toList.length = a.size := by simp
  have hbl : b.data.toList.length = b.size := by simp
  have e1 : cmpB a b = Lib.compareBytes (a.data.toList.drop k) (b.data.toList.drop k) := cmp_skip k _ _ (by omega) (by omega) (fun j hj => by
    have := h j hj
    rw [bAt_nat a j (by omega), bAt_nat b j (by omega)] at this
    rw [List.getElem?_eq_getElem (by omega), List.getElem?_eq_getElem (by omega)]
    congr 1
    exact UInt8.toNat_inj.1 (by omega))
  rw [e1]
  by_cases h1 : a.size < b.size
  · have e2 : a.data.toList.drop k = [] := List.drop_eq_nil_of_le (by omega)
    have e3 : k < b.data.toList.length := by omega
    rw [e2, List.drop_eq_getElem_cons e3, Lib.compareBytes]
    simp; omega
  · by_cases h2 : a.size = b.size
    · have e2 : a.data.toList.drop k = [] := List.drop_eq_nil_of_le (by omega)
      have e3 : b.data.toList.drop k = [] := List.drop_eq_nil_of_le (by omega)
      rw [e2, e3, Lib.compareBytes]; simp; omega
    · have e2 : b.data.toList.drop k = [] := List.drop_eq_nil_of_le (by omega)
      have e3 : k < a.data.toList.length := by omega
      rw [e2, List.drop_eq_getElem_cons e3, Lib.compareBytes]
      simp; omega
theorem lessR_spec (a b : ByteArray) (ha : a.size ≤ 4000000) (H : Hp) : ACall Tryz.prog 35 [.v (.string a), .v (.string b)] H (IsR H (.v (.bool (lessB a b)))) := by
  unfold lessB
  refine UCall (n := 37) (H0 := H) (objs := []) Tryz.func35 (by kernel_rfl) rfl (by rw [Tryz.ntmps35]; rfl) .nil <| ?_
  refine Q.rg <| Q.as rfl <| Q.nt <| S.sq <| Q.rg <| Q.as rfl <| Q.nt <| UW.block <| S.loop (fun k : Nat => [(5, .v (.int .i64 (k : Int))), (0, .v (.string a)), (1, .v (.string b))]) (fun _ => []) (fun k => k ≤ a.size ∧ k ≤ b.size ∧ ∀ j, j < k → bAt a (j : Int) = bAt b (j : Int)) (fun k => a.size - k) 0 ⟨Nat.zero_le _, Nat.zero_le _, fun j h => absurd h (by omega)⟩ ⟨rfl, rfl, rfl, trivial⟩ (.refl _) <| ?_
  rintro k ⟨hk, hkb, hj⟩
  by_cases hlt : k < a.size
  · by_cases hlt2 : k < b.size
    · by_cases hne : bAt a (k : Int) = bAt b (k : Int)
      · focus
          refine S.sq <| Q.rg <| Q.mv rfl <| Q.mv rfl <| S.qu (Z.lnt Tryz.underlying9 rfl) <| Q.bi rfl rfl rfl <| Q.mv rfl <| ?_
          refine S.tD 10 (fun hc10 => ?_) (fun hc10 => ?_)
          rotate_left
          omega
          refine Q.on (Z.mv rfl) <| Q.on (Z.mv rfl) <| Q.on (Z.lnt Tryz.underlying9 rfl) <| Q.on (Z.bi rfl rfl rfl) <| Q.pk rfl rfl <| Q.nt <| S.cT rfl (decide_eq_true (by omega)) <| UW.skip <| UQ.then <| S.sq <| UW.block <| S.sq <| ?_
          refine' UW.draw' (by kernel_rfl) [0, 0, 3, 0, 0, 24, 63] [some 18, some 19, some 20, some 21, some 22, some 23, some 24] [some (18, _), some (19, _), some (20, _), some (21, _), some (22, _), some (23, _), some (24, _)] [] [] rfl (by decide) (by decide) (QAll.free (by decide) rfl rfl ?q1x0_0 (QAll.free (by decide) rfl rfl ?q1x0_1 (QAll.free (by decide) rfl rfl ?q1x0_2 (QAll.free (by decide) rfl rfl ?q1x0_3 (QAll.free (by decide) rfl rfl ?q1x0_4 (QAll.free (by decide) rfl rfl ?q1x0_5 (QAll.free (by decide) rfl rfl ?q1x0_6 QAll.nil))))))) ?q1x0_k
          case q1x0_0 => (intro _; exact Z.mv rfl)
          case q1x0_1 => (intro _; exact Z.mv rfl)
          case q1x0_2 => (intro _; exact Z.is Tryz.underlying9 rfl rfl (by omega) (by omega))
          case q1x0_3 => (intro _; exact Z.mv rfl)
          case q1x0_4 => (intro _; exact Z.mv rfl)
          case q1x0_5 => (intro _; exact Z.is Tryz.underlying9 rfl rfl (by omega) (by omega))
          case q1x0_6 => (intro _; exact Z.bi rfl rfl rfl)
          refine CH.nil <| ?_
          simp only [app, finL]
          refine UQ.then <| S.cF rfl (bne_f (by omega)) <| UW.skip <| UQ.blockN <| UQ.then <| S.rg <| Q.mv rfl <| S.qu (Z.add (r := ((k + 1 : Nat) : Int)) rfl rfl (IntWalk.i64_in _ (by omega))) <| Q.as rfl <| US.nil <| ?_
          refine S.back _ ⟨rfl, rfl, rfl, trivial⟩ (.refl _) ?_ (by omega)
        refine ⟨by omega, by omega, fun j h3 => ?_⟩
        by_cases hjk : j = k
        · subst hjk; exact hne
        · exact hj j (by omega)
      · focus
          refine S.sq <| Q.rg <| Q.mv rfl <| Q.mv rfl <| S.qu (Z.lnt Tryz.underlying9 rfl) <| Q.bi rfl rfl rfl <| Q.mv rfl <| ?_
          refine S.tD 10 (fun hc10 => ?_) (fun hc10 => ?_)
          rotate_left
          omega
          refine Q.on (Z.mv rfl) <| Q.on (Z.mv rfl) <| Q.on (Z.lnt Tryz.underlying9 rfl) <| Q.on (Z.bi rfl rfl rfl) <| Q.pk rfl rfl <| Q.nt <| S.cT rfl (decide_eq_true (by omega)) <| UW.skip <| UQ.then <| S.sq <| UW.block <| S.sq <| ?_
          refine' UW.draw' (by kernel_rfl) [0, 0, 3, 0, 0, 24, 63] [some 18, some 19, some 20, some 21, some 22, some 23, some 24] [some (18, _), some (19, _), some (20, _), some (21, _), some (22, _), some (23, _), some (24, _)] [] [] rfl (by decide) (by decide) (QAll.free (by decide) rfl rfl ?q2x0_0 (QAll.free (by decide) rfl rfl ?q2x0_1 (QAll.free (by decide) rfl rfl ?q2x0_2 (QAll.free (by decide) rfl rfl ?q2x0_3 (QAll.free (by decide) rfl rfl ?q2x0_4 (QAll.free (by decide) rfl rfl ?q2x0_5 (QAll.free (by decide) rfl rfl ?q2x0_6 QAll.nil))))))) ?q2x0_k
          case q2x0_0 => (intro _; exact Z.mv rfl)
          case q2x0_1 => (intro _; exact Z.mv rfl)
          case q2x0_2 => (intro _; exact Z.is Tryz.underlying9 rfl rfl (by omega) (by omega))
          case q2x0_3 => (intro _; exact Z.mv rfl)
          case q2x0_4 => (intro _; exact Z.mv rfl)
          case q2x0_5 => (intro _; exact Z.is Tryz.underlying9 rfl rfl (by omega) (by omega))
          case q2x0_6 => (intro _; exact Z.bi rfl rfl rfl)
          refine CH.nil <| ?_
          simp only [app, finL]
          refine UQ.then <| S.cT rfl (bne_t (by omega)) <| S.sq <| ?_
          refine' UW.draw' (by kernel_rfl) [0, 0, 3, 0, 0, 24, 63, 127] [some 25, some 26, some 27, some 28, some 29, some 30, some 31, some 4] [some (25, _), some (26, _), some (27, _), some (28, _), some (29, _), some (30, _), some (31, _), some (4, _)] [] [] rfl (by decide) (by decide) (QAll.free (by decide) rfl rfl ?q2x1_0 (QAll.free (by decide) rfl rfl ?q2x1_1 (QAll.free (by decide) rfl rfl ?q2x1_2 (QAll.free (by decide) rfl rfl ?q2x1_3 (QAll.free (by decide) rfl rfl ?q2x1_4 (QAll.free (by decide) rfl rfl ?q2x1_5 (QAll.free (by decide) rfl rfl ?q2x1_6 (QAll.free (by decide) rfl rfl ?q2x1_7 QAll.nil)))))))) ?q2x1_k
          case q2x1_0 => (intro _; exact Z.mv rfl)
          case q2x1_1 => (intro _; exact Z.mv rfl)
          case q2x1_2 => (intro _; exact Z.is Tryz.underlying9 rfl rfl (by omega) (by omega))
          case q2x1_3 => (intro _; exact Z.mv rfl)
          case q2x1_4 => (intro _; exact Z.mv rfl)
          case q2x1_5 => (intro _; exact Z.is Tryz.underlying9 rfl rfl (by omega) (by omega))
          case q2x1_6 => (intro _; exact Z.bi rfl rfl rfl)
          case q2x1_7 => (intro _; exact Z.as rfl)
          refine CH.nil <| ?_
          simp only [app, finL]
          refine UQ.then <| UW.ret <| UQ.blockR <| UQ.passR <| UQ.passR <| UQ.blockR <| UQ.passR <| S.rtR (fun _ => res_tmp rfl rfl) <| ?_
        rw [cmp_at a b k hlt hlt2 hj hne]
    · focus
        refine S.sq <| Q.rg <| Q.mv rfl <| Q.mv rfl <| S.qu (Z.lnt Tryz.underlying9 rfl) <| Q.bi rfl rfl rfl <| Q.mv rfl <| ?_
        refine S.tD 10 (fun hc10 => ?_) (fun hc10 => ?_)
        rotate_left
        omega
        refine Q.on (Z.mv rfl) <| Q.on (Z.mv rfl) <| Q.on (Z.lnt Tryz.underlying9 rfl) <| Q.on (Z.bi rfl rfl rfl) <| Q.pk rfl rfl <| Q.nt <| S.cF rfl (decide_eq_false (by omega)) <| UW.exit <| UQ.pass <| UQ.pass <| UQ.here <| UQ.then <| Q.rg <| Q.mv rfl <| S.qu (Z.lnt Tryz.underlying9 rfl) <| Q.mv rfl <| S.qu (Z.lnt Tryz.underlying9 rfl) <| Q.bi rfl rfl rfl <| Q.as rfl <| Q.nt <| UW.ret <| S.rtR (fun _ => res_tmp rfl rfl) <| ?_
      rw [cmp_end a b k (by omega) hj]
  · refine S.sq <| Q.rg <| Q.mv rfl <| Q.mv rfl <| S.qu (Z.lnt Tryz.underlying9 rfl) <| Q.bi rfl rfl rfl <| Q.mv rfl <| ?_
    refine S.tD 10 (fun hc10 => ?_) (fun hc10 => ?_)
    omega
    refine Q.of <| Q.of <| Q.of <| Q.of <| Q.pk rfl rfl <| Q.nt <| S.cF rfl rfl <| UW.exit <| UQ.pass <| UQ.pass <| UQ.here <| UQ.then <| Q.rg <| Q.mv rfl <| S.qu (Z.lnt Tryz.underlying9 rfl) <| Q.mv rfl <| S.qu (Z.lnt Tryz.underlying9 rfl) <| Q.bi rfl rfl rfl <| Q.as rfl <| Q.nt <| UW.ret <| S.rtR (fun _ => res_tmp rfl rfl) <| ?_
    rw [cmp_end a b k (by omega) hj]
theorem stringsR_spec (l r : List ByteArray) (hl : l.length ≤ 1000000) (H : Hp) : ACall Tryz.prog 44 [strs l, strs r] H (IsR H (.v (.bool (eqBy eqT l r)))) := by
  have hml : (l.map encS).length = l.length := List.length_map ..
  have hmr : (r.map encS).length = r.length := List.length_map ..
  refine UCall (n := 26) (H0 := H) (objs := []) Tryz.func44 (by kernel_rfl) rfl (by rw [Tryz.ntmps44]; rfl) .nil <| ?_
  by_cases hlen : l.length = r.length
  · refine Q.rg <| Q.as rfl <| Q.nt <| S.sq <| Q.rg <| Q.mv rfl <| S.qu (Z.lns sl23 rfl) <| Q.mv rfl <| S.qu (Z.lns sl23 rfl) <| Q.bi rfl rfl rfl <| Q.nt <| S.cF rfl (bne_f (by omega)) <| UW.skip <| UQ.then <| S.sq <| Q.rg <| Q.as rfl <| Q.nt <| UW.block <| S.loop (fun k : Nat => [(5, .v (.int .i64 (k : Int))), (0, strs l), (1, strs r)]) (fun _ => []) (fun k => k ≤ l.length ∧ ∀ (j : Nat) (h : j < l.length) (h' : j < r.length), j < k → eqT l[j] r[j] = true) (fun k => l.length - k) 0 ⟨Nat.zero_le _, fun j _ _ h => absurd h (by omega)⟩ ⟨rfl, rfl, rfl, trivial⟩ (.refl _) <| ?_
    rintro k ⟨hk, hj⟩
    by_cases hlt : k < l.length
    · have hgr := strs_get r k (by omega)
      focus
        refine S.sq <| Q.rg <| Q.mv rfl <| Q.mv rfl <| S.qu (Z.lns sl23 rfl) <| Q.bi rfl rfl rfl <| Q.nt <| S.cT rfl (decide_eq_true (by omega)) <| UW.skip <| UQ.then <| S.sq <| UW.block <| S.sq <| ?_
        refine' UW.draw' (by kernel_rfl) [0, 0, 3, 7, 0, 0, 48, 112, 255] [some 17, some 18, some 19, some 20, some 21, some 22, some 23, some 24, some 25] [some (17, _), some (18, _), some (19, _), some (20, _), some (21, _), some (22, _), some (23, _), some (24, _), some (25, _)] [] [3, 7] rfl (by decide) (by decide) (QAll.free (by decide) rfl rfl ?q6x0_0 (QAll.free (by decide) rfl rfl ?q6x0_1 (QAll.free (by decide) rfl rfl ?q6x0_2 (QAll.held (by decide) rfl rfl ?q6x0_3 (QAll.free (by decide) rfl rfl ?q6x0_4 (QAll.free (by decide) rfl rfl ?q6x0_5 (QAll.free (by decide) rfl rfl ?q6x0_6 (QAll.held (by decide) rfl rfl ?q6x0_7 (QAll.free (by decide) rfl rfl ?q6x0_8 QAll.nil))))))))) ?q6x0_k
        case q6x0_0 => (intro _; exact Z.mv rfl)
        case q6x0_1 => (intro _; exact Z.mv rfl)
        case q6x0_2 => (intro _; exact Z.ia sl23 rfl rfl (by omega) (strs_get _ _ (by omega)) (by rfl))
        case q6x0_3 => exact Z.lpc ty9 rfl
        case q6x0_4 => (intro _; exact Z.mv rfl)
        case q6x0_5 => (intro _; exact Z.mv rfl)
        case q6x0_6 => (intro _; exact Z.ia sl23 rfl rfl (by omega) (by assumption) (by rfl))
        case q6x0_7 => exact Z.lpc ty9 rfl
        case q6x0_8 => (intro _; exact Z.bs rfl rfl rfl)
        refine CH.nil <| ?_
        simp only [app, finL]
        refine UQ.then <| ?_
        refine S.cO rfl (fun hc25 => ?_) (fun hc25 => ?_)
        refine Q.rg <| Q.as rfl <| Q.nt <| UW.ret <| UQ.blockR <| UQ.passR <| UQ.passR <| UQ.blockR <| UQ.passR <| S.rtR (fun _ => res_tmp rfl rfl) <| ?_
        rotate_left
        refine UW.skip <| UQ.blockN <| UQ.then <| S.rg <| Q.mv rfl <| S.qu (Z.add (r := ((k + 1 : Nat) : Int)) rfl rfl (IntWalk.i64_in _ (by omega))) <| Q.as rfl <| US.nil <| ?_
        refine S.back _ ⟨rfl, rfl, rfl, trivial⟩ (.refl _) ?_ (by omega)
        rotate_left
      · rw [eqBy_at k hlt (by omega) (by unfold eqT; simpa using hc25)]
      · refine ⟨by omega, fun j h3 h4 h5 => ?_⟩
        by_cases hjk : j = k
        · subst hjk; unfold eqT; simpa using hc25
        · exact hj j h3 h4 (by omega)
    · refine S.sq <| Q.rg <| Q.mv rfl <| Q.mv rfl <| S.qu (Z.lns sl23 rfl) <| Q.bi rfl rfl rfl <| Q.nt <| S.cF rfl (decide_eq_false (by omega)) <| UW.exit <| UQ.pass <| UQ.pass <| UQ.here <| UQ.then <| Q.rg <| Q.as rfl <| Q.nt <| UW.ret <| S.rtR (fun _ => res_tmp rfl rfl) <| ?_
      rw [eqBy_true hlen (fun i h1 h2 => hj i h1 h2 (by omega))]
  · refine Q.rg <| Q.as rfl <| Q.nt <| S.sq <| Q.rg <| Q.mv rfl <| S.qu (Z.lns sl23 rfl) <| Q.mv rfl <| S.qu (Z.lns sl23 rfl) <| Q.bi rfl rfl rfl <| Q.nt <| S.cT rfl (bne_t (by omega)) <| Q.rg <| Q.as rfl <| Q.nt <| UW.ret <| UQ.passR <| S.rtR (fun _ => res_tmp rfl rfl) <| ?_
    rw [eqBy_len hlen]
end Go.Proofs.YtgmfgmbgmjbdhaaGreatDoor
end
section
namespace Go.Proofs.YtgmfgmbgmjbdhaaGreatDoor
open Go Go.RowKit Go.Eng
set_option linter.unusedSimpArgs false
set_option linter.unusedVariables false
set_option maxRecDepth 100000
set_option maxHeartbeats 4000000
/-- A byte's short escape. -/
def signB (c : Int) : Int := if c = 34 then 34 else if c = 92 then 92 else if c = 8 then 98 else if c = 9 then 116 else if c = 10 then 110 else if c = 12 then 102 else if c = 13 then 114 else 0
theorem signB_bd (c : Int) : 0 ≤ signB c ∧ signB c < 256 := by unfold signB; (repeat' split) <;> omega
theorem sign_spec (c : Int) (H : Hp) : ACall Tryz.prog 113 [.v (.int .u8 c)] H (IsR H (.v (.int .u8 (signB c)))) := by
  refine UCall (n := 18) (H0 := H) (objs := []) Tryz.func113 (by kernel_rfl) rfl (by rw [Tryz.ntmps113]; rfl) .nil <| ?_
  refine Q.rg <| Q.as rfl <| Q.nt <| S.sq <| Q.rg <| Q.mv rfl <| Q.nt <| UW.block <| S.sq <| Q.rg <| Q.bi rfl rfl rfl <| Q.as rfl <| Q.nt <| ?_
  refine S.cE rfl (fun hc4 => ?_) (fun hc4 => ?_)
  refine UW.skip <| UQ.then <| S.cT rfl (beq_t (by omega)) <| Q.rg <| Q.mv rfl <| Q.as rfl <| Q.nt <| UW.ret <| UQ.blockR <| UQ.passR <| S.rtR (fun _ => res_tmp rfl rfl) <| ?_
  focus (congr 2; unfold signB; (repeat' split) <;> omega; done)
  refine S.rg <| Q.bi rfl rfl rfl <| Q.as rfl <| Q.nt <| ?_
  refine S.cE rfl (fun hc4 => ?_) (fun hc4 => ?_)
  refine Q.rg <| Q.mv rfl <| Q.as rfl <| Q.nt <| UW.ret <| UQ.blockR <| UQ.passR <| S.rtR (fun _ => res_tmp rfl rfl) <| ?_
  focus (congr 2; unfold signB; (repeat' split) <;> omega; done)
  refine Q.rg <| Q.bi rfl rfl rfl <| Q.as rfl <| Q.nt <| ?_
  refine S.cE rfl (fun hc8 => ?_) (fun hc8 => ?_)
  refine Q.rg <| Q.as rfl <| Q.nt <| UW.ret <| UQ.blockR <| UQ.passR <| S.rtR (fun _ => res_tmp rfl rfl) <| ?_
  focus (congr 2; unfold signB; (repeat' split) <;> omega; done)
  refine Q.rg <| Q.bi rfl rfl rfl <| Q.as rfl <| Q.nt <| ?_
  refine S.cE rfl (fun hc10 => ?_) (fun hc10 => ?_)
  refine Q.rg <| Q.as rfl <| Q.nt <| UW.ret <| UQ.blockR <| UQ.passR <| S.rtR (fun _ => res_tmp rfl rfl) <| ?_
  focus (congr 2; unfold signB; (repeat' split) <;> omega; done)
  refine Q.rg <| Q.bi rfl rfl rfl <| Q.as rfl <| Q.nt <| ?_
  refine S.cE rfl (fun hc12 => ?_) (fun hc12 => ?_)
  refine Q.rg <| Q.as rfl <| Q.nt <| UW.ret <| UQ.blockR <| UQ.passR <| S.rtR (fun _ => res_tmp rfl rfl) <| ?_
  focus (congr 2; unfold signB; (repeat' split) <;> omega; done)
  refine Q.rg <| Q.bi rfl rfl rfl <| Q.as rfl <| Q.nt <| ?_
  refine S.cE rfl (fun hc14 => ?_) (fun hc14 => ?_)
  refine Q.rg <| Q.as rfl <| Q.nt <| UW.ret <| UQ.blockR <| UQ.passR <| S.rtR (fun _ => res_tmp rfl rfl) <| ?_
  focus (congr 2; unfold signB; (repeat' split) <;> omega; done)
  refine Q.rg <| Q.bi rfl rfl rfl <| Q.as rfl <| Q.nt <| ?_
  refine S.cE rfl (fun hc16 => ?_) (fun hc16 => ?_)
  refine Q.rg <| Q.as rfl <| Q.nt <| UW.ret <| UQ.blockR <| UQ.passR <| S.rtR (fun _ => res_tmp rfl rfl) <| ?_
  focus (congr 2; unfold signB; (repeat' split) <;> omega; done)
  refine UW.skip <| UQ.blockN <| UQ.then <| Q.rg <| Q.as rfl <| Q.nt <| UW.ret <| S.rtR (fun _ => res_tmp rfl rfl) <| ?_
  focus (congr 2; unfold signB; (repeat' split) <;> omega; done)
def fromB : ByteArray := ⟨#[34, 92, 8, 9, 10, 12, 13]⟩
def toB : ByteArray := ⟨#[34, 92, 98, 116, 110, 102, 114]⟩
theorem short_at : ∀ j : Fin 7, signB (bAt fromB (j.val : Int)) = bAt toB (j.val : Int) := by decide
theorem short_no (c : Int) (h : ∀ i : Nat, i < 7 → ¬ bAt fromB (i : Int) = c) : signB c = 0 := by
  have h0 := h 0 (by decide); have h1 := h 1 (by decide); have h2 := h 2 (by decide); have h3 := h 3 (by decide); have h4 := h 4 (by decide); have h5 := h 5 (by decide); have h6 := h 6 (by decide)
  rw [show bAt fromB (0 : Nat) = 34 from by decide] at h0
  rw [show bAt fromB (1 : Nat) = 92 from by decide] at h1
  rw [show bAt fromB (2 : Nat) = 8 from by decide] at h2
  rw [show bAt fromB (3 : Nat) = 9 from by decide] at h3
  rw [show bAt fromB (4 : Nat) = 10 from by decide] at h4
  rw [show bAt fromB (5 : Nat) = 12 from by decide] at h5
  rw [show bAt fromB (6 : Nat) = 13 from by decide] at h6
  unfold signB; (repeat' split) <;> omega
theorem short_spec (c : Int) (H : Hp) : ACall Tryz.prog 112 [.v (.int .u8 c)] H (IsR H (.v (.int .u8 (signB c)))) := by
  refine UCall (n := 14) (H0 := H) (objs := []) Tryz.func112 (by kernel_rfl) rfl (by rw [Tryz.ntmps112]; rfl) .nil <| ?_
  refine Q.rg <| Q.as rfl <| Q.nt <| S.sq <| Q.rg <| Q.as rfl <| Q.nt <| UW.block <| S.loop (fun j : Nat => [(3, .v (.int .i64 (j : Int))), (0, .v (.int .u8 c))]) (fun _ => []) (fun j => j ≤ 7 ∧ ∀ i : Nat, i < j → ¬ bAt fromB (i : Int) = c) (fun j => 7 - j) 0 ⟨Nat.zero_le _, fun i h => absurd h (by omega)⟩ ⟨rfl, rfl, trivial⟩ (.refl _) <| ?_
  rintro j ⟨hj, hjj⟩
  have hf7 : (fromB.size : Int) = 7 := rfl
  have ht7 : (toB.size : Int) = 7 := rfl
  by_cases hlt : j < 7
  · refine S.sq <| Q.rg <| Q.mv rfl <| Q.bi rfl rfl rfl <| Q.nt <| S.cT rfl (decide_eq_true (by omega)) <| UW.skip <| UQ.then <| S.sq <| UW.block <| Q.rg <| Q.mv rfl <| S.qu (Z.is (p := fromB) Tryz.underlying9 rfl rfl (by omega) (by show _ < (7 : Int); omega)) <| ?_
    refine Q.mv rfl <| Q.bi rfl rfl rfl <| Q.nt <| ?_
    refine S.cE rfl (fun hc11 => ?_) (fun hc11 => ?_)
    refine Q.rg <| Q.mv rfl <| S.qu (Z.is (p := toB) Tryz.underlying9 rfl rfl (by omega) (by show _ < (7 : Int); omega)) <| ?_
    refine Q.as rfl <| Q.nt <| UW.ret <| UQ.blockR <| UQ.passR <| UQ.passR <| UQ.blockR <| UQ.passR <| S.rtR (fun _ => res_tmp rfl rfl) <| ?_
    focus (first | (rw [← hc11, short_at ⟨j, hlt⟩]) | exact ⟨by omega, fun i hi => by by_cases h : i = j; (subst h; exact hc11); exact hjj i (by omega)⟩; done)
    refine UW.skip <| UQ.blockN <| UQ.then <| S.rg <| Q.mv rfl <| S.qu (Z.add (r := ((j + 1 : Nat) : Int)) rfl rfl (IntWalk.i64_in _ (by omega))) <| Q.as rfl <| US.nil <| ?_
    refine S.back _ ⟨rfl, rfl, trivial⟩ (.refl _) ?_ (by omega)
    focus (first | (rw [← hc11, short_at ⟨j, hlt⟩]) | exact ⟨by omega, fun i hi => by by_cases h : i = j; (subst h; exact hc11); exact hjj i (by omega)⟩; done)
  · refine S.sq <| Q.rg <| Q.mv rfl <| Q.bi rfl rfl rfl <| Q.nt <| S.cF rfl (decide_eq_false (by omega)) <| UW.exit <| UQ.pass <| UQ.pass <| UQ.here <| UQ.then <| Q.rg <| Q.as rfl <| Q.nt <| UW.ret <| S.rtR (fun _ => res_tmp rfl rfl) <| ?_
    focus (rw [short_no c (fun i hi => hjj i (by omega))]; done)
end Go.Proofs.YtgmfgmbgmjbdhaaGreatDoor
end
section
namespace Go.Proofs.YtgmfgmbgmjbdhaaGreatDoor
open Go Go.RowKit Go.Eng
set_option linter.unusedSimpArgs false
set_option linter.unusedVariables false
set_option maxRecDepth 100000
set_option maxHeartbeats 4000000
def hexS : ByteArray := ⟨#[48, 49, 50, 51, 52, 53, 54, 55, 56, 57, 97, 98, 99, 100, 101, 102]⟩
def uS : ByteArray := ⟨#[92, 117, 48, 48]⟩
/-- One byte more behind what is quoted so far. -/
def qAdd (x : ByteArray) (c : Int) : ByteArray := if signB c ≠ 0 then (x ++ byteB 92) ++ byteB (signB c) else if c < 32 then ((x ++ uS) ++ byteB (bAt hexS (c / 16))) ++ byteB (bAt hexS (c % 16)) else x ++ byteB c
def quoteN (s : ByteArray) : Nat → ByteArray
  | 0 => ⟨#[]⟩ ++ byteB 34
  | k + 1 => qAdd (quoteN s k) (bAt s (k : Int))
def quoteB (s : ByteArray) : ByteArray := quoteN s s.size ++ byteB 34
theorem qAdd_size (x : ByteArray) (c : Int) : (qAdd x c).size ≤ x.size + 6 := by
  unfold qAdd
  (repeat' split) <;> simp only [app_size, byteB_size] <;> have : uS.size = 4 := rfl <;> omega
theorem quoteN_size (s : ByteArray) : ∀ k, (quoteN s k).size ≤ 6 * k + 1
  | 0 => by show (⟨#[]⟩ ++ byteB 34 : ByteArray).size ≤ _; rw [app_size, byteB_size]; exact Nat.le_refl 1
  | k + 1 => by have := quoteN_size s k; have h2 := qAdd_size (quoteN s k) (bAt s (k : Int)); show (qAdd _ _).size ≤ _; omega
theorem quoteB_size (s : ByteArray) : (quoteB s).size ≤ 6 * s.size + 2 := by have := quoteN_size s s.size; unfold quoteB; rw [app_size, byteB_size]; omega
theorem and15 (c : Int) (h0 : 0 ≤ c) (h1 : c < 256) : IntKind.u8.wrap ((BitVec.ofInt IntKind.u8.bits c &&& BitVec.ofInt IntKind.u8.bits 15).toNat) = c % 16 := by
  have h : ∀ n : Fin 256, IntKind.u8.wrap ((BitVec.ofInt IntKind.u8.bits (n.val : Int) &&& BitVec.ofInt IntKind.u8.bits 15).toNat) = (n.val : Int) % 16 := by decide
  have := h ⟨c.toNat, by omega⟩
  rwa [show (((⟨c.toNat, by omega⟩ : Fin 256).val : Nat) : Int) = c from by show ((c.toNat : Nat) : Int) = c; omega] at this
theorem shr4 (c : Int) : c.fdiv 16 = c / 16 := Int.fdiv_eq_ediv_of_nonneg _ (by decide)
/-- One byte, and what that is. -/
theorem writeByte_to (p r : Nat) (a : AV) (ha : Adr p a) (s s' : ByteArray) (hs : s.size ≤ 100000000000000) (c : Int) (h0 : 0 ≤ c) (h1 : c < 256) (h : s ++ byteB c = s') (G : Hp) (hd : Dist G (bld p r a s)) : ACall Tryz.prog 84 [.ptr p 0, .v (.int .u8 c)] (extH G (bld p r a s)) (fun u H' => ∃ news, Dist G news ∧ H' = extH G news ∧ BldR p s' (.v .nilIface) u news) := by
  subst h; exact writeByte_spec p r a ha s hs c h0 h1 G hd
theorem quote_spec (s : ByteArray) (hs : s.size ≤ 1000000000000) (H : Hp) : ACall Tryz.prog 77 [.v (.string s)] H (IsR H (.v (.string (quoteB s)))) := by
  refine UCall (n := 41) (H0 := H) (objs := []) Tryz.func77 (by kernel_rfl) rfl (by rw [Tryz.ntmps77]; rfl) .nil <| ?_
  refine Q.rg <| Q.as rfl <| Q.nt <| Q.rg <| S.dd <| D.alp z82 rfl rfl fun p => ?_
  (refine US.nilCell (sz := 1) 0 1 5 (by decide) rfl rfl (fun r0 => ?_); simp only [List.set_cons_zero, List.set_cons_succ])
  refine Q.nt <| Q.rg <| S.dd <| D.co (.cons 0 rfl (.cons 0 rfl .nil)) rfl rfl (fun G hD => writeByte_to p r0 (.v (.pointer none)) (.inl rfl) ⟨#[]⟩ (quoteN s 0) (by decide) 34 (by decide) (by decide) rfl G hD) <| ?_
  (rintro _ _ ⟨rfl, r1, rfl⟩; simp only [bld, List.cons_append, List.nil_append])
  refine Q.nt <| S.sq <| Q.rg <| Q.mv rfl <| S.qu (Z.lnt Tryz.underlying9 rfl) <| Q.mv rfl <| Q.nt <| UW.block <| S.loop (fun j : Nat × Nat => [(10, .v (.int .i64 (j.1 : Int))), (9, .v (.int .i64 (s.size : Int))), (3, .ptr p 0), (0, .v (.string s))]) (fun j => bld p j.2 (.ptr p 0) (quoteN s j.1)) (fun j => j.1 ≤ s.size) (fun j => s.size - j.1) (0, r1) (Nat.zero_le _) ⟨rfl, rfl, rfl, rfl, trivial⟩ (.refl _) <| ?_
  rintro ⟨j, r⟩ hj
  simp only at hj
  have hN := quoteN_size s j
  have hb := bAt_lt s (j : Int)
  have hsb := signB_bd (bAt s (j : Int))
  simp only [bld]
  by_cases hlt : j < s.size
  · by_cases hq : signB (bAt s (j : Int)) = 0
    · by_cases hq2 : bAt s (j : Int) < 32
      · have hst : quoteN s (j + 1) = ((quoteN s j ++ uS) ++ byteB (bAt hexS (bAt s (j : Int) / 16))) ++ byteB (bAt hexS (bAt s (j : Int) % 16)) := by show qAdd _ _ = _; unfold qAdd; rw [if_neg (fun h => h hq), if_pos hq2]
        have hx1 := bAt_lt hexS (bAt s (j : Int) / 16)
        have hx2 := bAt_lt hexS (bAt s (j : Int) % 16)
        have hz1 : (quoteN s j ++ uS).size ≤ 100000000000000 := by rw [app_size]; have : uS.size = 4 := rfl; omega
        have hz2 : ((quoteN s j ++ uS) ++ byteB (bAt hexS (bAt s (j : Int) / 16))).size ≤ 100000000000000 := by rw [app_size, byteB_size, app_size]; have : uS.size = 4 := rfl; omega
        refine Q.rg <| Q.bi rfl rfl rfl <| Q.nt <| S.sq <| S.cT rfl (decide_eq_true (by omega)) <| UW.skip <| UQ.then <| S.sq <| UW.block <| Q.rg <| Q.mv rfl <| Q.as rfl <| Q.nt <| Q.rg <| Q.mv rfl <| Q.mv rfl <| S.dd <| D.ib Tryz.underlying9 rfl rfl (by omega) (by omega) fun h15 => Q.as rfl <| Q.nt <| Q.rg <| Q.mv rfl <| S.qu (Z.eq (u' := .v (.int .u8 0)) (Z.call rfl rfl (fun _ => sign_spec _ _)) (by rw [hq])) <| ?_
        refine Q.as rfl <| Q.nt <| UW.block <| Q.rg <| Q.mv rfl <| Q.bi rfl rfl rfl <| Q.as rfl <| Q.nt <| S.cF rfl (bne_f (by omega)) <| Q.rg <| Q.mv rfl <| Q.bi rfl rfl rfl <| Q.as rfl <| Q.nt <| S.cT rfl (decide_eq_true (by omega)) <| Q.rg <| S.dd <| D.co (.cons 0 rfl (.cons 0 rfl .nil)) rfl rfl (fun G hD => writeString_spec p r (.ptr p 0) (.inr rfl) (quoteN s j) (by omega) uS (by decide) G hD) <| ?_
        (rintro _ _ ⟨rfl, r2, rfl⟩; simp only [bld, List.cons_append, List.nil_append])
        refine Q.nt <| Q.rg <| Q.mv rfl <| S.qu (Z.shr (r := bAt s (j : Int) / 16) rfl rfl (by decide) (shr4 _)) <| S.qu (Z.is (p := hexS) Tryz.underlying9 rfl rfl (by omega) (by show _ < (16 : Int); omega)) <| ?_
        refine S.dd <| D.co (.cons 0 rfl (.cons 0 rfl .nil)) rfl rfl (fun G hD => writeByte_spec p r2 (.ptr p 0) (.inr rfl) _ hz1 _ hx1.1 hx1.2 G hD) <| ?_
        (rintro _ _ ⟨rfl, r3, rfl⟩; simp only [bld, List.cons_append, List.nil_append])
        refine Q.nt <| S.rg <| Q.mv rfl <| S.qu (Z.eq (u' := .v (.int .u8 (bAt s (j : Int) % 16))) (Z.bi rfl rfl rfl) (by rw [and15 _ hb.1 hb.2])) <| ?_
        refine S.qu (Z.is (p := hexS) Tryz.underlying9 rfl rfl (by omega) (by show _ < (16 : Int); omega)) <| ?_
        refine S.dd <| D.co (.cons 0 rfl (.cons 0 rfl .nil)) rfl rfl (fun G hD => writeByte_to p r3 (.ptr p 0) (.inr rfl) _ (quoteN s (j + 1)) hz2 _ hx2.1 hx2.2 hst.symm G hD) <| ?_
        (rintro _ _ ⟨rfl, r4, rfl⟩; simp only [bld, List.cons_append, List.nil_append])
        refine US.nil <| UQ.blockN <| UQ.blockN <| UQ.then <| S.rg <| S.qu (Z.add (r := ((j + 1 : Nat) : Int)) rfl rfl (IntWalk.i64_in _ (by omega))) <| Q.mv rfl <| US.nil <| ?_
        refine S.back (j + 1, r4) ⟨rfl, rfl, rfl, rfl, trivial⟩ (.refl _) (by omega) (by omega)
      · have hst : quoteN s (j + 1) = quoteN s j ++ byteB (bAt s (j : Int)) := by show qAdd _ _ = _; unfold qAdd; rw [if_neg (fun h => h hq), if_neg hq2]
        refine Q.rg <| Q.bi rfl rfl rfl <| Q.nt <| S.sq <| S.cT rfl (decide_eq_true (by omega)) <| UW.skip <| UQ.then <| S.sq <| UW.block <| Q.rg <| Q.mv rfl <| Q.as rfl <| Q.nt <| Q.rg <| Q.mv rfl <| Q.mv rfl <| S.dd <| D.ib Tryz.underlying9 rfl rfl (by omega) (by omega) fun h15 => Q.as rfl <| Q.nt <| Q.rg <| Q.mv rfl <| S.qu (Z.eq (u' := .v (.int .u8 0)) (Z.call rfl rfl (fun _ => sign_spec _ _)) (by rw [hq])) <| ?_
        refine Q.as rfl <| Q.nt <| UW.block <| Q.rg <| Q.mv rfl <| Q.bi rfl rfl rfl <| Q.as rfl <| Q.nt <| S.cF rfl (bne_f (by omega)) <| Q.rg <| Q.mv rfl <| Q.bi rfl rfl rfl <| Q.as rfl <| Q.nt <| S.cF rfl (decide_eq_false (by omega)) <| S.rg <| Q.mv rfl <| S.dd <| D.co (.cons 0 rfl (.cons 0 rfl .nil)) rfl rfl (fun G hD => writeByte_to p r (.ptr p 0) (.inr rfl) _ (quoteN s (j + 1)) (by omega) _ hb.1 hb.2 hst.symm G hD) <| ?_
        (rintro _ _ ⟨rfl, r4, rfl⟩; simp only [bld, List.cons_append, List.nil_append])
        refine US.nil <| UQ.blockN <| UQ.blockN <| UQ.then <| S.rg <| S.qu (Z.add (r := ((j + 1 : Nat) : Int)) rfl rfl (IntWalk.i64_in _ (by omega))) <| Q.mv rfl <| US.nil <| ?_
        refine S.back (j + 1, r4) ⟨rfl, rfl, rfl, rfl, trivial⟩ (.refl _) (by omega) (by omega)
    · have hst : quoteN s (j + 1) = (quoteN s j ++ byteB 92) ++ byteB (signB (bAt s (j : Int))) := by show qAdd _ _ = _; unfold qAdd; rw [if_pos hq]
      have hz1 : (quoteN s j ++ byteB 92).size ≤ 100000000000000 := by rw [app_size, byteB_size]; omega
      refine Q.rg <| Q.bi rfl rfl rfl <| Q.nt <| S.sq <| S.cT rfl (decide_eq_true (by omega)) <| UW.skip <| UQ.then <| S.sq <| UW.block <| Q.rg <| Q.mv rfl <| Q.as rfl <| Q.nt <| Q.rg <| Q.mv rfl <| Q.mv rfl <| S.dd <| D.ib Tryz.underlying9 rfl rfl (by omega) (by omega) fun h15 => Q.as rfl <| Q.nt <| Q.rg <| Q.mv rfl <| S.qu (Z.call rfl rfl ( fun _ => sign_spec _ _)) <| Q.as rfl <| Q.nt <| UW.block <| Q.rg <| Q.mv rfl <| Q.bi rfl rfl rfl <| Q.as rfl <| Q.nt <| S.cT rfl (bne_t (by omega)) <| Q.rg <| S.dd <| D.co (.cons 0 rfl (.cons 0 rfl .nil)) rfl rfl (fun G hD => writeByte_spec p r (.ptr p 0) (.inr rfl) (quoteN s j) (by omega) 92 (by decide) (by decide) G hD) <| ?_
      (rintro _ _ ⟨rfl, r2, rfl⟩; simp only [bld, List.cons_append, List.nil_append])
      refine Q.nt <| S.rg <| Q.mv rfl <| S.dd <| D.co (.cons 0 rfl (.cons 0 rfl .nil)) rfl rfl (fun G hD => writeByte_to p r2 (.ptr p 0) (.inr rfl) _ (quoteN s (j + 1)) hz1 _ hsb.1 hsb.2 hst.symm G hD) <| ?_
      (rintro _ _ ⟨rfl, r4, rfl⟩; simp only [bld, List.cons_append, List.nil_append])
      refine US.nil <| UQ.blockN <| UQ.blockN <| UQ.then <| S.rg <| S.qu (Z.add (r := ((j + 1 : Nat) : Int)) rfl rfl (IntWalk.i64_in _ (by omega))) <| Q.mv rfl <| US.nil <| ?_
      refine S.back (j + 1, r4) ⟨rfl, rfl, rfl, rfl, trivial⟩ (.refl _) (by omega) (by omega)
  · have hjs : j = s.size := by omega
    have hz : quoteN s j ++ byteB 34 = quoteB s := by rw [hjs]; rfl
    have hp : 0 < (quoteB s).size := by rw [← hz, app_size, byteB_size]; omega
    have hq := quoteB_size s
    refine Q.rg <| Q.bi rfl rfl rfl <| Q.nt <| S.sq <| S.cF rfl (decide_eq_false (by omega)) <| UW.exit <| UQ.pass <| UQ.pass <| UQ.here <| UQ.then <| Q.rg <| S.dd <| D.co (.cons 0 rfl (.cons 0 rfl .nil)) rfl rfl (fun G hD => writeByte_to p r (.ptr p 0) (.inr rfl) _ (quoteB s) (by omega) 34 (by decide) (by decide) hz G hD) <| ?_
    (rintro _ _ ⟨rfl, r4, rfl⟩; simp only [bld, List.cons_append, List.nil_append])
    refine Q.nt <| Q.rg <| S.dd <| D.co (.cons 0 rfl (.cons 0 rfl .nil)) rfl rfl (fun G hD => bldString_spec p r4 (.ptr p 0) (quoteB s) hp (by omega) G hD) <| ?_
    (rintro _ _ ⟨rfl, rfl⟩; simp only [List.nil_append])
    refine Q.as rfl <| Q.nt <| UW.ret <| S.rtR (fun _ => res_tmp rfl rfl) <| ?_
    rfl
theorem extract_one (s : ByteArray) (k : Nat) (h : k < s.size) : s.extract k (k + 1) = byteB (bAt s (k : Int)) := by
  have hk : k < s.data.toList.length := by simpa using h
  apply ByteArray.ext
  apply Array.ext'
  rw [ByteArray.data_extract, Array.toList_extract, bAt_nat s k h]
  show List.extract _ _ _ = [UInt8.ofNat _]
  rw [Int.toNat_natCast, UInt8.ofNat_toNat]
  unfold List.extract
  rw [show k + 1 - k = 1 from by omega, List.drop_eq_getElem_cons hk]; rfl
theorem two_b (a b : Int) (ha : 0 ≤ a ∧ a < 256) (hb : 0 ≤ b ∧ b < 256) : AV.sl [[.v (.int .u8 a)], [.v (.int .u8 b)]] = .sl (strRows (byteB a ++ byteB b)) := by rw [strRows_app, strRows_byte ha.1 ha.2, strRows_byte hb.1 hb.2]; rfl
theorem one_b (a : Int) (ha : 0 ≤ a ∧ a < 256) : AV.sl [[.v (.int .u8 a)]] = .sl (strRows (byteB a)) := by rw [strRows_byte ha.1 ha.2]
theorem quoteR_spec (s : ByteArray) (hs : s.size ≤ 1000000000000) (H : Hp) : ACall Tryz.prog 74 [.v (.string s)] H (IsR H (.v (.string (quoteB s)))) := by
  refine UCall (n := 47) (H0 := H) (objs := []) Tryz.func74 (by kernel_rfl) rfl (by rw [Tryz.ntmps74]; rfl) .nil <| ?_
  refine Q.rg <| Q.as rfl <| Q.nt <| Q.rg <| Q.as rfl <| Q.nt <| S.sq <| Q.rg <| Q.as rfl <| Q.nt <| UW.block <| S.loop (fun j : Nat => [(4, .v (.int .i64 (j : Int))), (3, .v (.string (quoteN s j))), (0, .v (.string s))]) (fun _ => []) (fun j => j ≤ s.size) (fun j => s.size - j) 0 (Nat.zero_le _) ⟨rfl, rfl, rfl, trivial⟩ (.refl _) <| ?_
  rintro j hj
  have hN := quoteN_size s j
  have hb := bAt_lt s (j : Int)
  have hsb := signB_bd (bAt s (j : Int))
  by_cases hlt : j < s.size
  · by_cases hq : signB (bAt s (j : Int)) = 0
    · by_cases hq2 : bAt s (j : Int) < 32
      · have hx1 := bAt_lt hexS (bAt s (j : Int) / 16)
        have hx2 := bAt_lt hexS (bAt s (j : Int) % 16)
        have hst : (quoteN s j ++ uS) ++ (byteB (bAt hexS (bAt s (j : Int) / 16)) ++ byteB (bAt hexS (bAt s (j : Int) % 16))) = quoteN s (j + 1) := by show _ = qAdd _ _; unfold qAdd; rw [if_neg (fun h => h hq), if_pos hq2, ← ByteArray.append_assoc]
        refine S.sq <| Q.rg <| Q.mv rfl <| Q.mv rfl <| S.qu (Z.lnt Tryz.underlying9 rfl) <| Q.bi rfl rfl rfl <| Q.nt <| S.cT rfl (decide_eq_true (by omega)) <| UW.skip <| UQ.then <| S.sq <| UW.block <| Q.rg <| Q.mv rfl <| Q.mv rfl <| S.dd <| D.ib Tryz.underlying9 rfl rfl (by omega) (by omega) fun h14 => Q.as rfl <| Q.nt <| Q.rg <| Q.mv rfl <| S.qu (Z.eq (u' := .v (.int .u8 0)) (Z.call rfl rfl (fun _ => short_spec _ _)) (by rw [hq])) <| ?_
        refine Q.bi rfl rfl rfl <| Q.nt <| S.cF rfl (bne_f (by omega)) <| Q.rg <| Q.mv rfl <| Q.bi rfl rfl rfl <| Q.nt <| S.cT rfl (decide_eq_true (by omega)) <| ?_
        refine' UW.draw' (by kernel_rfl) [0, 1, 0, 4, 12, 0, 32, 96, 252, 508, 1023, 2047] [some 27, some 28, some 29, some 30, some 31, some 32, some 33, some 34, some 35, some 36, some 37, some 3] [some (27, _), some (28, _), some (29, _), some (30, _), some (31, _), some (32, _), some (33, _), some (34, _), some (35, _), some (36, _), some (37, _), some (3, _)] [] [] rfl (by decide) (by decide) (QAll.free (by decide) rfl rfl ?q6x0_0 (QAll.free (by decide) rfl rfl ?q6x0_1 (QAll.free (by decide) rfl rfl ?q6x0_2 (QAll.free (by decide) rfl rfl ?q6x0_3 (QAll.free (by decide) rfl rfl ?q6x0_4 (QAll.free (by decide) rfl rfl ?q6x0_5 (QAll.free (by decide) rfl rfl ?q6x0_6 (QAll.free (by decide) rfl rfl ?q6x0_7 (QAll.free (by decide) rfl rfl ?q6x0_8 (QAll.free (by decide) rfl rfl ?q6x0_9 (QAll.free (by decide) rfl rfl ?q6x0_10 (QAll.free (by decide) rfl rfl ?q6x0_11 QAll.nil)))))))))))) ?q6x0_k
        case q6x0_0 => (intro _; exact Z.mv rfl)
        case q6x0_1 => (intro _; exact Z.cat (q := uS) rfl rfl (by show _ + 4 ≤ _; omega))
        case q6x0_2 => (intro _; exact Z.mv rfl)
        case q6x0_3 => (intro _; exact Z.eq (u' := .v (.int .u8 (bAt s (j : Int) / 16))) (Z.bi rfl rfl rfl) (by rw [IntWalk.u8_in _ (by rw [Int.tdiv_eq_ediv_of_nonneg hb.1]; omega), Int.tdiv_eq_ediv_of_nonneg hb.1]))
        case q6x0_4 => (intro _; exact Z.is (p := hexS) Tryz.underlying9 rfl rfl (by omega) (by show _ < (16 : Int); omega))
        case q6x0_5 => (intro _; exact Z.mv rfl)
        case q6x0_6 => (intro _; exact Z.eq (u' := .v (.int .u8 (bAt s (j : Int) % 16))) (Z.bi rfl rfl rfl) (by rw [Int.tmod_eq_emod_of_nonneg hb.1]))
        case q6x0_7 => (intro _; exact Z.is (p := hexS) Tryz.underlying9 rfl rfl (by omega) (by show _ < (16 : Int); omega))
        case q6x0_8 => (intro _; exact Z.bl row22 rfl rfl (lit_ok rfl))
        case q6x0_9 => (intro _; exact Z.b2s (s := byteB (bAt hexS (bAt s (j : Int) / 16)) ++ byteB (bAt hexS (bAt s (j : Int) % 16))) Tryz.underlying22 Tryz.underlying5 Tryz.underlying9 (congrArg some (two_b _ _ hx1 hx2)))
        case q6x0_10 => (intro _; exact Z.eq (u' := .v (.string (quoteN s (j + 1)))) (Z.cat rfl rfl (by rw [app_size, app_size, byteB_size, byteB_size]; show _ + 4 + 2 ≤ _; omega)) (by rw [hst]))
        case q6x0_11 => (intro _; exact Z.as rfl)
        refine CH.nil <| ?_
        simp only [app, finL]
        refine UQ.blockN <| UQ.then <| S.rg <| Q.mv rfl <| S.qu (Z.add (r := ((j + 1 : Nat) : Int)) rfl rfl (IntWalk.i64_in _ (by omega))) <| Q.as rfl <| US.nil <| ?_
        refine S.back _ ⟨rfl, rfl, rfl, trivial⟩ (.refl _) (by omega) (by omega)
      · have hst : quoteN s j ++ s.extract j (j + 1) = quoteN s (j + 1) := by rw [extract_one s j hlt]; show _ = qAdd _ _; unfold qAdd; rw [if_neg (fun h => h hq), if_neg hq2]
        refine S.sq <| Q.rg <| Q.mv rfl <| Q.mv rfl <| S.qu (Z.lnt Tryz.underlying9 rfl) <| Q.bi rfl rfl rfl <| Q.nt <| S.cT rfl (decide_eq_true (by omega)) <| UW.skip <| UQ.then <| S.sq <| UW.block <| Q.rg <| Q.mv rfl <| Q.mv rfl <| S.dd <| D.ib Tryz.underlying9 rfl rfl (by omega) (by omega) fun h14 => Q.as rfl <| Q.nt <| Q.rg <| Q.mv rfl <| S.qu (Z.eq (u' := .v (.int .u8 0)) (Z.call rfl rfl (fun _ => short_spec _ _)) (by rw [hq])) <| ?_
        refine Q.bi rfl rfl rfl <| Q.nt <| S.cF rfl (bne_f (by omega)) <| Q.rg <| Q.mv rfl <| Q.bi rfl rfl rfl <| Q.nt <| S.cF rfl (decide_eq_false (by omega)) <| S.rg <| Q.mv rfl <| Q.mv rfl <| Q.mv rfl <| Q.mv rfl <| S.qu (Z.add (r := ((j + 1 : Nat) : Int)) rfl rfl (IntWalk.i64_in _ (by omega))) <| S.qu (Z.slt Tryz.underlying9 rfl (.both rfl rfl) (by omega) (by omega)) <| S.qu (Z.eq (u' := .v (.string (quoteN s (j + 1)))) (Z.cat rfl rfl (by rw [extract_one s j hlt, byteB_size]; omega)) (by rw [hst])) <| ?_
        refine Q.as rfl <| US.nil <| UQ.blockN <| UQ.then <| S.rg <| Q.mv rfl <| S.qu (Z.add (r := ((j + 1 : Nat) : Int)) rfl rfl (IntWalk.i64_in _ (by omega))) <| Q.as rfl <| US.nil <| ?_
        refine S.back _ ⟨rfl, rfl, rfl, trivial⟩ (.refl _) (by omega) (by omega)
    · have hst : (quoteN s j ++ byteB 92) ++ byteB (signB (bAt s (j : Int))) = quoteN s (j + 1) := by show _ = qAdd _ _; unfold qAdd; rw [if_pos hq]
      refine S.sq <| Q.rg <| Q.mv rfl <| Q.mv rfl <| S.qu (Z.lnt Tryz.underlying9 rfl) <| Q.bi rfl rfl rfl <| Q.nt <| S.cT rfl (decide_eq_true (by omega)) <| UW.skip <| UQ.then <| S.sq <| UW.block <| Q.rg <| Q.mv rfl <| Q.mv rfl <| S.dd <| D.ib Tryz.underlying9 rfl rfl (by omega) (by omega) fun h14 => Q.as rfl <| Q.nt <| Q.rg <| Q.mv rfl <| S.qu (Z.call rfl rfl ( fun _ => short_spec _ _)) <| Q.bi rfl rfl rfl <| Q.nt <| S.cT rfl (bne_t (by omega)) <| S.rg <| Q.mv rfl <| S.qu (Z.cat (q := byteB 92) rfl rfl (by rw [byteB_size]; omega)) <| ?_
      refine Q.mv rfl <| S.qu (Z.call rfl rfl ( fun _ => short_spec _ _)) <| S.qu (Z.bl row22 rfl rfl (lit_ok rfl)) <| S.qu (Z.b2s (s := byteB (signB (bAt s (j : Int)))) Tryz.underlying22 Tryz.underlying5 Tryz.underlying9 (congrArg some (one_b _ hsb))) <| S.qu (Z.eq (u' := .v (.string (quoteN s (j + 1)))) (Z.cat rfl rfl (by rw [app_size, byteB_size, byteB_size]; omega)) (by rw [hst])) <| ?_
      refine Q.as rfl <| US.nil <| UQ.blockN <| UQ.then <| S.rg <| Q.mv rfl <| S.qu (Z.add (r := ((j + 1 : Nat) : Int)) rfl rfl (IntWalk.i64_in _ (by omega))) <| Q.as rfl <| US.nil <| ?_
      refine S.back _ ⟨rfl, rfl, rfl, trivial⟩ (.refl _) (by omega) (by omega)
  · have hjs : j = s.size := by omega
    have hz : quoteN s j ++ byteB 34 = quoteB s := by rw [hjs]; rfl
    refine S.sq <| Q.rg <| Q.mv rfl <| Q.mv rfl <| S.qu (Z.lnt Tryz.underlying9 rfl) <| Q.bi rfl rfl rfl <| Q.nt <| S.cF rfl (decide_eq_false (by omega)) <| UW.exit <| UQ.pass <| UQ.pass <| UQ.here <| UQ.then <| Q.rg <| Q.mv rfl <| S.qu (Z.eq (u' := .v (.string (quoteB s))) (Z.cat (q := byteB 34) rfl rfl (by rw [byteB_size]; omega)) (by rw [hz])) <| ?_
    refine Q.as rfl <| Q.nt <| UW.ret <| S.rtR (fun _ => res_tmp rfl rfl) <| ?_
    rfl
end Go.Proofs.YtgmfgmbgmjbdhaaGreatDoor
end
section
namespace Go.Eng
open Go Go.RowKit
set_option linter.unusedSectionVars false
variable [Rd]
set_option linter.unusedVariables false
set_option linter.unusedSimpArgs false
theorem ext_sub {H : Hp} {news : List (Nat × Ob)} (hd : Dist H news) : Sub H (extH H news) := sub_of_mem (r' := []) hd .nil (by simp)
/-- Nothing but known blocks. -/
def RawH (G : Hp) : Prop := ∀ i ob, G i = some ob → ∃ g x, ob = .raw g x
/-- The part of a heap that package variables stand in. -/
def low (H : Hp) : Hp := fun i => if i < 2 then H i else none
theorem low_sub (H : Hp) : Sub (low H) H := fun i ob h => by unfold low at h; split at h; exact h; cases h
theorem extH_memG {G : Hp} {i : Nat} {ob : Ob} : ∀ {r : List (Nat × Ob)}, extH G r i = some ob → (i, ob) ∈ r ∨ G i = some ob
  | [], h => .inr h
  | (j, o) :: r, h => by
    by_cases hj : i = j
    · subst hj
      have : extH G ((i, o) :: r) i = some o := by show set _ _ _ _ = _; simp
      rw [this] at h; cases h; simp
    · have : extH G ((j, o) :: r) i = extH G r i := by show set _ _ _ _ = _; rw [set_ne _ _ hj]
      rw [this] at h
      exact (extH_memG h).imp (List.mem_cons_of_mem _) id
section
variable {P : Program} {n : Nat} {ops : Array Oper} {G H0 : Hp} {l : List (Nat × AV)} {objs keep : List (Nat × Ob)} {us us' caps : List AV} {u r : AV} {f : Nat} {cc : Operand} {args : Array Operand} {at_ : Array TypeId} {dst : Option Nat} {ty : TypeId} {ps : String} {af : Array Edge}
/-- A call that may read package variables. -/
theorem Z.callg (hc : evO l cc = some (.clo f caps)) (ha : argsO l args.toList = some us) (h : ∀ H, Sub H0 H → ACall P f (us ++ caps) H (IsR H r)) : QS P n ops H0 ⟨dst, .call { callee := .value cc, args := args, argTypes := at_ }, ty, ps, af, none⟩ l objs r := QS.call rfl rfl hc ha fun hd => h _ (ext_sub hd)
end
end Go.Eng
end
