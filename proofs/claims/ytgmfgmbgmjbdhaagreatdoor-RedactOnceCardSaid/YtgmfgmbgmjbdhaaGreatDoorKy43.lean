/- RedactOnce: what is redacted twice is as once; it has the same name; what it has the event had. -/
import Derived.Test.YtgmfgmbgmjbdhaaGreatDoorKy42
namespace Go.Proofs.YtgmfgmbgmjbdhaaGreatDoor
open Go Go.RowKit Go.Eng
set_option linter.unusedSimpArgs false
set_option linter.unusedVariables false
set_option maxRecDepth 100000
set_option maxHeartbeats 4000000
theorem bAt_byteB {c : Int} (h : 0 ≤ c ∧ c < 256) : bAt (byteB c) ((0 : Nat) : Int) = c := by
  rw [bAt_nat _ _ (show 0 < (byteB c).size by rw [byteB_size]; decide)]
  show ((UInt8.ofNat c.toNat).toNat : Int) = c
  rw [UInt8.toNat_ofNat']
  omega
theorem bAt_l (a b : ByteArray) (j : Nat) (h : j < a.size) : bAt (a ++ b) (j : Int) = bAt a (j : Int) := by
  rw [bAt_nat _ _ (by rw [app_size]; omega), bAt_nat _ _ h]
  simp only [ba_app]
  rw [List.getElem_append_left]
theorem bAt_r (a b : ByteArray) (j : Nat) (h : j < b.size) : bAt (a ++ b) ((a.size + j : Nat) : Int) = bAt b (j : Int) := by
  rw [bAt_nat _ _ (by rw [app_size]; omega), bAt_nat _ _ h]
  simp only [ba_app]
  have hl : a.data.toList.length = a.size := rfl
  rw [List.getElem_append_right (by omega)]
  congr 2
  simp only [hl]
  congr 1
  omega
theorem sgn_bd (n : Int) (j : Nat) : 0 ≤ sgn n j ∧ sgn n j < 256 := bAt_lt _ _
theorem partT_at (n : Int) : ∀ m j, j < m → bAt (partT n m) (j : Int) = sgn n j
  | m + 1, j, h => by
    rw [partT]
    by_cases hj : j < m
    · rw [bAt_l _ _ _ (by rw [partT_size]; exact hj)]; exact partT_at n m j hj
    · obtain rfl : j = m := by omega
      have := bAt_r (partT n j) (byteB (sgn n j)) 0 (by rw [byteB_size]; decide)
      rw [partT_size, Nat.add_zero] at this
      rw [this]
      exact bAt_byteB (sgn_bd n j)
def T3 (all : List Int) (k : Nat) : ByteArray := textF all (chunksUpto 3 k)
theorem T3_succ (all : List Int) (k : Nat) : T3 all (k + 1) = T3 all k ++ fullT (cut3 all (k * 3)) := by unfold T3; rw [chunksUpto_succ, textF_snoc]
theorem T3_size (all : List Int) : ∀ k, 3 * k ≤ all.length → (T3 all k).size = 4 * k
  | 0, _ => rfl
  | k + 1, h => by rw [T3_succ, app_size, T3_size all k (by omega), fullT_size, cut3_len]; omega
theorem T3_pre (all : List Int) (k i : Nat) (h : i < (T3 all k).size) : ∀ d, i < (T3 all (k + d)).size ∧ bAt (T3 all (k + d)) (i : Int) = bAt (T3 all k) (i : Int)
  | 0 => ⟨h, rfl⟩
  | d + 1 => by
    obtain ⟨h1, h2⟩ := T3_pre all k i h d
    rw [← Nat.add_assoc, T3_succ]
    exact ⟨by rw [app_size]; omega, by rw [bAt_l _ _ _ h1, h2]⟩
theorem textB_T3 (all : List Int) : textB all = T3 all ((all.length + 2) / 3) := rfl
theorem textB_size (all : List Int) : (textB all).size = 4 * (all.length / 3) + (if all.length % 3 = 0 then 0 else all.length % 3 + 1) := by
  rw [textB_T3]
  split
  · rw [show (all.length + 2) / 3 = all.length / 3 by omega, T3_size _ _ (by omega)]; rfl
  · rw [show (all.length + 2) / 3 = all.length / 3 + 1 by omega, T3_succ, app_size, T3_size _ _ (by omega), fullT_size, cut3_len]; omega
/-- How the groups lie. -/
theorem text_many (all : List Int) (k : Nat) (h : 3 * k < all.length) : (cut3 all (k * 3)).length = min 3 (all.length - 3 * k) ∧ manyN (textB all) k = (cut3 all (k * 3)).length + 1 ∧ ∀ j, j < 4 → (4 * k + j < (textB all).size ↔ j < (cut3 all (k * 3)).length + 1) := by
  have h1 := textB_size all
  have h2 := cut3_len all (k * 3)
  unfold manyN
  refine ⟨by omega, ?_, fun j hj => ?_⟩
  · split at h1 <;> omega
  · split at h1 <;> omega
theorem text_at (all : List Int) (k j : Nat) (h : 3 * k < all.length) (hj : j < (cut3 all (k * 3)).length + 1) : bAt (textB all) ((4 * k + j : Nat) : Int) = sgn (acc3 (cut3 all (k * 3)) 3) j := by
  have hs := T3_size all k (by omega)
  have hf := fullT_size (cut3 all (k * 3))
  have h1 : 4 * k + j < (T3 all (k + 1)).size := by rw [T3_succ, app_size, hs, hf]; omega
  obtain ⟨_, h2⟩ := T3_pre all (k + 1) (4 * k + j) h1 ((all.length + 2) / 3 - (k + 1))
  rw [show k + 1 + ((all.length + 2) / 3 - (k + 1)) = (all.length + 2) / 3 by omega, ← textB_T3] at h2
  rw [h2, T3_succ]
  have h3 := bAt_r (T3 all k) (fullT (cut3 all (k * 3))) j (by omega)
  rw [hs] at h3
  rw [h3]
  exact partT_at _ _ _ hj
theorem text_dgt (all : List Int) (k j : Nat) (h : 3 * k < all.length) (hj4 : j < 4) : dgt (textB all) (4 * k + j) = if j < (cut3 all (k * 3)).length + 1 then dig (acc3 (cut3 all (k * 3)) 3) j else 0 := by
  unfold dgt
  have hm := (text_many all k h).2.2 j hj4
  by_cases hj : j < (cut3 all (k * 3)).length + 1
  · rw [if_pos (hm.2 hj), if_pos hj, text_at all k j h hj]
    have := dig_bd (acc3 (cut3 all (k * 3)) 3) j
    exact sgn_back this.1 this.2
  · rw [if_neg (fun e => hj (hm.1 e)), if_neg hj]
theorem acc3_form (c : List Int) : acc3 c 3 = (c.getD 0 0 * 256 + c.getD 1 0) * 256 + c.getD 2 0 := by
  show ((0 * 256 + c.getD 0 0) * 256 + c.getD 1 0) * 256 + c.getD 2 0 = _
  rw [Int.zero_mul, Int.zero_add]
theorem text_num (all : List Int) (hb : ByteL all) (k : Nat) (h : 3 * k < all.length) : numU (textB all) k 4 = acc3 (cut3 all (k * 3)) 3 := by
  have d0 := text_dgt all k 0 h (by decide)
  have d1 := text_dgt all k 1 h (by decide)
  have d2 := text_dgt all k 2 h (by decide)
  have d3 := text_dgt all k 3 h (by decide)
  have hl := (text_many all k h).1
  have hc := cut3_ok hb (k * 3)
  have b0 := hc.at 0
  have b1 := hc.at 1
  have b2 := hc.at 2
  have e : numU (textB all) k 4 = 64 * (64 * (64 * (64 * 0 + dgt (textB all) (4 * k + 0)) + dgt (textB all) (4 * k + 1)) + dgt (textB all) (4 * k + 2)) + dgt (textB all) (4 * k + 3) := rfl
  have hf := acc3_form (cut3 all (k * 3))
  have z1 := getD_out (cut3 all (k * 3)) 1
  have z2 := getD_out (cut3 all (k * 3)) 2
  rw [e, d0, d1, d2, d3]
  generalize cut3 all (k * 3) = c at *
  have q : ∀ j, dig (acc3 c 3) j = acc3 c 3 / 2 ^ (18 - 6 * j) % 64 := fun j => rfl
  rw [q 0, q 1, q 2, q 3, if_pos (by omega), if_pos (by omega)]
  generalize acc3 c 3 = n at *
  show 64 * (64 * (64 * (64 * 0 + n / 262144 % 64) + n / 4096 % 64) + (if _ then n / 64 % 64 else 0)) + (if _ then n / 1 % 64 else 0) = n
  by_cases h3 : c.length = 3
  · rw [if_pos (by omega), if_pos (by omega)]; omega
  · have z2 := z2 (by omega)
    by_cases h2 : c.length = 2
    · rw [if_pos (by omega), if_neg (by omega)]; omega
    · have z1 := z1 (by omega)
      rw [if_neg (by omega), if_neg (by omega)]; omega
theorem text_bytU (all : List Int) (hb : ByteL all) (k j : Nat) (h : 3 * k < all.length) (hj : j < 3) : bytU (textB all) k j = (cut3 all (k * 3)).getD j 0 := by
  have hc := cut3_ok hb (k * 3)
  have b0 := hc.at 0
  have b1 := hc.at 1
  have b2 := hc.at 2
  have hf := acc3_form (cut3 all (k * 3))
  unfold bytU
  rw [text_num all hb k h, IntKind.wrap_u8]
  generalize acc3 (cut3 all (k * 3)) 3 = n at *
  generalize cut3 all (k * 3) = c at *
  match j, hj with
  | 0, _ => show n / 65536 % 256 = _; omega
  | 1, _ => show n / 256 % 256 = _; omega
  | 2, _ => show n / 1 % 256 = _; omega
theorem text_gB (all : List Int) (hb : ByteL all) (k : Nat) (h : 3 * k < all.length) : gB (textB all) k (manyN (textB all) k - 1) = cut3 all (k * 3) := by
  obtain ⟨hl, hm, _⟩ := text_many all k h
  apply List.ext_getElem
  · rw [gB_len, hm]; omega
  · intro j h1 h2
    have e : (gB (textB all) k (manyN (textB all) k - 1))[j] = bytU (textB all) k j := by simp [gB]
    rw [e, text_bytU all hb k j h (by omega), getD_at h2]
theorem text_backU (all : List Int) (hb : ByteL all) : ∀ k, k ≤ (all.length + 2) / 3 → backU (textB all) k = all.take (3 * k)
  | 0, _ => by rw [Nat.mul_zero, List.take_zero]; rfl
  | k + 1, hk => by
    show backU (textB all) k ++ gB (textB all) k (manyN (textB all) k - 1) = _
    rw [text_gB all hb k (by omega), text_backU all hb k (by omega)]
    unfold cut3
    rw [show 3 * (k + 1) = 3 * k + 3 by omega, List.take_add, Nat.mul_comm k 3]
theorem dec_text (all : List Int) (hb : ByteL all) : decR (textB all) = some all := by
  have hs := textB_size all
  have hq : ((textB all).size + 3) / 4 = (all.length + 2) / 3 := by rw [hs]; split <;> omega
  have hback : backL (textB all) = all := by
    unfold backL
    rw [hq, text_backU all hb _ (Nat.le_refl _), List.take_of_length_le (by omega)]
  have hok : okS (textB all) = true := okS_of fun j hj => by
    have hk : 3 * (j / 4) < all.length := by rw [hs] at hj; split at hj <;> omega
    have hjj : j = 4 * (j / 4) + j % 4 := by omega
    have hm := ((text_many all (j / 4) hk).2.2 (j % 4) (by omega)).1 (by rw [← hjj]; exact hj)
    have := text_at all (j / 4) (j % 4) hk hm
    rw [← hjj] at this
    rw [this]
    have hd := dig_bd (acc3 (cut3 all (j / 4 * 3)) 3) (j % 4)
    rw [show sgnI (sgn (acc3 (cut3 all (j / 4 * 3)) 3) (j % 4)) = dig (acc3 (cut3 all (j / 4 * 3)) 3) (j % 4) from sgn_back hd.1 hd.2]
    exact hd.1
  rw [decR_ok hok, hback, beq_self_eq_true, if_pos rfl]
theorem ext_tail (a b : ByteArray) : (a ++ b).extract a.size (a ++ b).size = b := by
  apply ByteArray.ext
  apply Array.toList_inj.1
  simp [ByteArray.data_extract, ByteArray.data_append]
  have h1 : List.drop a.size a.data.toList = [] := List.drop_eq_nil_of_le (Nat.le_of_eq rfl)
  have h2 : List.take b.size b.data.toList = b.data.toList := List.take_of_length_le (Nat.le_of_eq rfl)
  rw [h1, h2, List.take_nil, List.nil_append]
theorem id_named (x : V) : namedV (idB x) = true := by
  have hl := shaB_len (bytesOf (printV (redP x)))
  have hd := dec_text _ (shaB_ok (bytesOf (printV (redP x))))
  have he : (idB x).extract 1 (idB x).size = textB (shaB (bytesOf (printV (redP x)))) := ext_tail dollarB _
  have hs : (idB x).size = 1 + (textB (shaB (bytesOf (printV (redP x))))).size := app_size _ _
  have h0 : bAt (idB x) ((0 : Nat) : Int) = 36 := (bAt_l dollarB _ 0 (by decide)).trans (by kernel_rfl)
  unfold namedV
  rw [decide_eq_true (by omega : (idB x).size ≠ 0), h0, he, hd]
  show (true && ((36 : Int) == 36) && decide ((shaB (bytesOf (printV (redP x)))).length = 32)) = true
  rw [hl]; rfl
theorem id_size (x : V) : (idB x).size ≤ 1000000 := by
  have hl := shaB_len (bytesOf (printV (redP x)))
  have hs : (idB x).size = 1 + (textB (shaB (bytesOf (printV (redP x))))).size := app_size _ _
  rw [hs, textB_size, hl]; decide
theorem pick_pick {x : V} (h : O x) (g : ByteArray → Bool) : pickV (pickV x g) g = pickV x g := by
  refine O.ext ((h.pick g).pick g) (h.pick g) fun key => ?_
  rw [(h.pick g).get_pick, h.get_pick]
  by_cases hg : g key = true
  · rw [if_pos hg, if_pos hg]
  · rw [if_neg hg, if_neg hg]
theorem O.get_redC {x : V} (h : O x) (h5 : (getV x contentB).1.k = 5) : getV (redP x) contentB = (pickV (getV x contentB).1 (keptB (getV x typeB).1.t), true) := by
  rw [h.get_red, if_pos contentB_field, if_pos ⟨rfl, h5⟩]
theorem O.get_redT {x : V} (h : O x) : getV (redP x) typeB = getV x typeB := by
  rw [h.get_red, if_pos (by kernel_rfl), if_neg (fun e => absurd e.1 (by decide))]
theorem O.red_red {x : V} (h : O x) (hc : (getV x contentB).1.k = 5 → O (getV x contentB).1) : redP (redP x) = redP x := by
  refine O.ext h.red.red h.red fun key => ?_
  rw [h.red.get_red key]
  by_cases hf : hasB fieldL key = true
  · rw [if_pos hf]
    by_cases hk : key = contentB ∧ (getV (redP x) contentB).1.k = 5
    · rw [if_pos hk, hk.1]
      by_cases h5 : (getV x contentB).1.k = 5
      · rw [h.get_redC h5, h.get_redT]
        show (pickV (pickV (getV x contentB).1 _) _, true) = _
        rw [pick_pick (hc h5)]
      · have e : getV (redP x) contentB = getV x contentB := by rw [h.get_red, if_pos contentB_field, if_neg (fun q => h5 q.2)]
        rw [e] at hk
        exact absurd hk.2 h5
    · rw [if_neg hk]
  · rw [if_neg hf, h.get_red, if_neg hf]
theorem O.at {x : V} (h : O x) (i : Nat) (h1 : i < x.ks.length) (h2 : i < x.vs.length) : getV x x.ks[i] = (x.vs[i], true) := by
  have : (x.ks[i], x.vs[i]) ∈ x.ks.zip x.vs := by
    have : (x.ks.zip x.vs)[i]'(by rw [List.length_zip]; omega) = (x.ks[i], x.vs[i]) := List.getElem_zip
    rw [← this]; exact List.getElem_mem _
  exact h.mem.2 this
/-- What is in what is redacted. -/
theorem red_parts {x : V} (h : O x) : (∀ s ∈ (redP x).ks, s ∈ fieldL) ∧ ∀ v ∈ (redP x).vs, (∃ key, v = (getV x key).1) ∨ (v = pickV (getV x contentB).1 (keptB (getV x typeB).1.t) ∧ (getV x contentB).1.k = 5) := by
  have hr := h.red
  constructor
  · intro s hs
    have := hr.has.2 hs
    rw [h.get_red] at this
    by_cases hf : hasB fieldL s = true
    · exact hasB_mem.1 hf
    · rw [if_neg hf] at this; cases this
  · intro v hv
    obtain ⟨i, hi, rfl⟩ := List.getElem_of_mem hv
    have hl := hr.len
    have hg := hr.at i (by omega) hi
    rw [h.get_red] at hg
    by_cases hf : hasB fieldL ((redP x).ks[i]'(by omega)) = true
    · rw [if_pos hf] at hg
      by_cases hk : (redP x).ks[i]'(by omega) = contentB ∧ (getV x contentB).1.k = 5
      · rw [if_pos hk] at hg
        exact .inr ⟨(Prod.mk.inj hg).1.symm, hk.2⟩
      · rw [if_neg hk] at hg
        exact .inl ⟨_, by rw [hg]⟩
    · rw [if_neg hf] at hg
      exact absurd (Prod.mk.inj hg).2 (by decide)
theorem pick_parts {x : V} (h : O x) (g : ByteArray → Bool) : (∀ s ∈ (pickV x g).ks, s ∈ x.ks) ∧ ∀ v ∈ (pickV x g).vs, v ∈ x.vs := by
  rw [h.pick_form g]
  constructor
  · intro s hs
    obtain ⟨p, hp, rfl⟩ := List.mem_map.1 hs
    exact (List.of_mem_zip (List.mem_filter.1 hp).1).1
  · intro s hs
    obtain ⟨p, hp, rfl⟩ := List.mem_map.1 hs
    exact (List.of_mem_zip (List.mem_filter.1 hp).1).2
theorem field_chk : ∀ s ∈ fieldL, chk s < 0 := fun s hs => of_decide_eq_true (List.all_eq_true.1 (by kernel_rfl : fieldL.all chkB = true) s hs)
theorem red_right {x : V} (hr : rightV x = true) (h5 : x.k = 5) : rightV (redP x) = true := by
  obtain ⟨ho, _, _⟩ := right_O hr h5
  obtain ⟨h1, h2⟩ := red_parts ho
  refine ho.red.right (fun s hs => field_chk s (h1 s hs)) fun v hv => ?_
  rcases h2 v hv with ⟨key, rfl⟩ | ⟨rfl, hc5⟩
  · exact right_get hr _
  · obtain ⟨hco, hck, hcv⟩ := right_O (right_get hr _) hc5
    obtain ⟨h3, h4⟩ := pick_parts hco (keptB (getV x typeB).1.t)
    exact (hco.pick _).right (fun s hs => hck s (h3 s hs)) fun v hv => hcv v (h4 v hv)
theorem tx_of {x : V} (h1 : x.t.size ≤ 4000000) (h2 : ∀ s ∈ x.ks, s.size ≤ 4000000) (h : ∀ v ∈ x.vs, Tx v) : Tx x := by obtain ⟨k, n, t, ks, vs⟩ := x; exact .mk _ _ _ _ _ h1 h2 h
theorem tx_vals {x : V} (h : Tx x) : ∀ v ∈ x.vs, Tx v := by obtain ⟨k, n, t, ks, vs⟩ := x; exact h.vals
theorem tx_zero : Tx zeroV := tx_of (by decide) (fun s h => by cases h) (fun s h => by cases h)
theorem tx_get {x : V} (h : Tx x) (key : ByteArray) : Tx (getV x key).1 := by
  unfold getV
  split
  · rename_i i _
    by_cases hi : i < x.vs.length
    · exact tx_vals h _ (getD_mem hi)
    · simp only [List.getD, List.getElem?_eq_none (Nat.le_of_not_lt hi)]; exact tx_zero
  · exact tx_zero
theorem red_tx {x : V} (h : Tx x) (ho : O x) (hc : (getV x contentB).1.k = 5 → O (getV x contentB).1) : Tx (redP x) := by
  obtain ⟨h1, h2⟩ := red_parts ho
  refine tx_of (by rw [ho.red.t]; decide) (fun s hs => field_size s (h1 s hs)) fun v hv => ?_
  rcases h2 v hv with ⟨key, rfl⟩ | ⟨rfl, hc5⟩
  · exact tx_get h _
  · obtain ⟨h3, h4⟩ := pick_parts (hc hc5) (keptB (getV x typeB).1.t)
    have ht := tx_get h contentB
    exact tx_of (by rw [((hc hc5).pick _).t]; decide) (fun s hs => tx_keys ht s (h3 s hs)) fun v hv => tx_vals ht v (h4 v hv)
theorem wtK_mem : ∀ {l : List ByteArray} {s : ByteArray}, s ∈ l → 6 * s.size ≤ wtK l
  | x :: r, s, h => by
    rw [wtK]
    rcases List.mem_cons.1 h with e | e
    · rw [e]; omega
    · have := wtK_mem e; omega
mutual
theorem tx_wt : ∀ x : V, wtV x ≤ 24000000 → Tx x
  | .mk k n t ks vs, h => by
    rw [wtV_mk] at h
    exact .mk _ _ _ _ _ (by omega) (fun s hs => by have := wtK_mem hs; omega) (txs_wt vs (by omega))
theorem txs_wt : ∀ l : List V, wtVs l ≤ 24000000 → ∀ x ∈ l, Tx x
  | [], _ => fun x h => absurd h List.not_mem_nil
  | x :: r, h => by
    rw [wtVs] at h
    intro y hy
    rcases List.mem_cons.1 hy with e | e
    · rw [e]; exact tx_wt x (by omega)
    · exact txs_wt r (by omega) y e
end
theorem wide_tx (c : List Int) (hc : Bys c) (k : Int) (hk : 0 ≤ k) : Tx (wideV c k) := by
  obtain ⟨_, h⟩ := wideN_good hc k hk (min c.length 18)
  exact tx_wt _ (Nat.le_trans h.wt (by omega))
theorem once_law (c : List Int) (k : Int) (hc : Bys c) (hk0 : 0 ≤ k) (hk1 : k ≤ 255) (H : Hp) (hG : Glob H) : ACall Tryz.prog 7 [u8s c, .v (.int .u8 k)] H (IsR H (.v (.bool true))) := by
  have hm := mk_wide c hc k hk0
  have hr := wide_right c hc k hk0
  have ho := wide_O c k
  have htx := wide_tx c hc k hk0
  have hvf := hm.fits
  have hwide := fun H => wide_spec c hc k hk0 (by omega) H
  generalize wideV c k = v at *
  have hco : (getV v contentB).1.k = 5 → O (getV v contentB).1 := (hm.obj ho.k).2
  have hrr := ho.red_red hco
  have hrf : Fits (redP v) := red_fits hvf hm.few.1
  have hrp : Pr (redP v) := pr_of hrf ((hm.wt.red (by decide)).up (by decide))
  have hrg := red_right hr ho.k
  have hrt := red_tx htx ho hco
  have hid : idB (redP v) = idB v := by unfold idB; rw [hrr]
  have hro := ho.red
  have hred := fun H h => redact_spec v hvf H h
  have hred2 : ∀ H, Glob H → ACall Tryz.prog 21 [.agg (encV (redP v))] H (IsR H (.agg (encV (redP v)))) := fun H h => by
    have := redact_spec (redP v) hrf H h
    rwa [hrr] at this
  have hsm : ∀ H, ACall Tryz.prog 18 [.agg (encV (redP v)), .agg (encV (redP v))] H (IsR H (.v (.bool true))) := fun H => by
    have := sameR_spec (redP v) hrf (redP v) H
    rwa [same_self _ hrf] at this
  have hi1 : ∀ H, Glob H → ACall Tryz.prog 27 [.agg (encV (redP v))] H (IsR H (.v (.string (idB v)))) := fun H h => by
    have := id_spec (redP v) hrf (by rw [hrr]; exact hrp) H h
    rwa [hid] at this
  have hi2 := fun H h => id_spec v hvf hrp H h
  have hrt2 : ∀ H, ACall Tryz.prog 28 [.agg (encV (redP v))] H (IsR H (.v (.bool true))) := fun H => by
    have := rightR_spec (redP v) hrf hrt H
    rwa [hrg] at this
  have hnm : ∀ H, ACall Tryz.prog 29 [.v (.string (idB v))] H (IsR H (.v (.bool true))) := fun H => by
    have := namedR_spec (idB v) (id_size v) H
    rwa [id_named] at this
  have hall : ∀ (j : Nat) (h1 : j < (redP v).ks.length), ∃ kj vj y b, ((redP v).ks.map encS)[j]? = some (encS kj) ∧ (encVs (redP v).vs)[j]? = some (encV vj) ∧ (∀ H, ACall Tryz.prog 22 [.agg (encV v), .v (.string kj)] H (IsR H (.tup [.agg (encV y), .v (.bool b)]))) ∧ (¬ kj.toList = contentB.toList → y = vj) ∧ Fits y := fun j h1 => by
    have hl := hro.len
    have h2 : j < (redP v).vs.length := by omega
    refine ⟨(redP v).ks[j], (redP v).vs[j], (getV v (redP v).ks[j]).1, (getV v (redP v).ks[j]).2, strs_get _ j h1, encVs_get _ j h2, fun H => getR_spec v hvf _ H, fun hne => ?_, get_fits hvf _⟩
    have hg := hro.at j h1 h2
    rw [ho.get_red] at hg
    by_cases hf : hasB fieldL (redP v).ks[j] = true
    · rw [if_pos hf, if_neg (fun e => hne (by rw [e.1]))] at hg
      rw [hg]
    · rw [if_neg hf] at hg
      exact absurd (Prod.mk.inj hg).2 (by decide)
  have hlen := hro.len
  have hk6 : (redP v).ks.length ≤ 1000000 := hrf.ksl
  clear hm hr ho htx hvf hco hrr hrf hrp hrg hrt hid hro
  generalize idB v = i at *
  generalize redP v = r at *
  obtain ⟨rk, rn, rt, rks, rvs⟩ := r
  obtain ⟨vk, vn, vt, wks, wvs⟩ := v
  simp only [vks, vvs] at hall hlen hk6
  have hml : (rks.map encS).length = rks.length := List.length_map ..
  have hvl := encVs_len rvs
  refine UCall (n := 71) (H0 := H) (objs := []) Tryz.func7 (by kernel_rfl) rfl (by rw [Tryz.ntmps7]; rfl) .nil ?_
  refine S.sq (S.rg ?_)
  refine S.qu (Z.as rfl) ?_
  refine US.nil (UQ.then (S.sq (S.rg ?_)))
  refine S.qu (Z.mv rfl) ?_
  refine S.qu (Z.mv rfl) ?_
  refine S.qu (Z.call rfl rfl (fun H => hwide H)) ?_
  refine S.dd (D.al z26 rfl rfl rfl (fun p5 => ?_))
  refine S.s (D.st 0 ty26 rfl rfl rfl rfl rfl rfl rfl rfl (fun _ => ?_))
  refine US.nil (UQ.then (S.sq (S.rg ?_)))
  refine S.qu (Z.ldw 0 ty26 rfl rfl rfl) ?_
  refine S.qu (Z.callg rfl rfl (fun _ hS => hred _ (hG.mono hS))) ?_
  refine S.dd (D.al z26 rfl rfl rfl (fun p6 => ?_))
  refine S.s (D.st 0 ty26 rfl rfl rfl rfl rfl rfl rfl rfl (fun _ => ?_))
  refine US.nil (UQ.then (S.sq (S.sq (S.rg ?_))))
  refine S.qu (Z.as rfl) ?_
  refine US.nil (UQ.then (UW.block ?_))
  refine S.loop (fun j : Nat => [(7, .v (.int .i64 (j : Int))), (6, .ptr p6 0), (5, .ptr p5 0)]) (fun _ => [(p6, .box 26 (encV (.mk rk rn rt rks rvs))), (p5, .box 26 (encV (.mk vk vn vt wks wvs)))]) (fun j => j ≤ rks.length) (fun j => rks.length - j) 0 (Nat.zero_le _) ⟨rfl, rfl, rfl, trivial⟩ (.refl _) ?_
  rintro j hj
  by_cases hlt : j < rks.length
  · obtain ⟨kj, vj, y, b, hgk, hgv, hgt, hey, hfy⟩ := hall j hlt
    by_cases hc : kj.toList = contentB.toList
    · have hcb := beq_t hc
      refine S.sq (S.sq (S.rg ?_))
      refine S.qu (Z.mv rfl) ?_
      refine S.qu (Z.fa f26_3 rfl) ?_
      refine S.qu (Z.ldc 0 ty23 rfl rfl rfl) ?_
      refine S.qu (Z.lns sl23 rfl) ?_
      refine S.qu (Z.bi rfl rfl rfl) ?_
      refine US.nil (UQ.then ?_)
      refine S.cT rfl (decide_eq_true (by omega)) ?_
      refine UW.skip (UQ.then (S.sq (UW.block (S.sq ?_))))
      refine' UW.drawk (by kernel_rfl) [1, 0] [0, 0, 2, 0, 14, 30, 63, 127, 255, 255, 0, 1535, 4095] [some 23, some 24, some 25, some 26, some 27, some 28, some 29, some 22, some 30, some 31, none, none, none] [some (23, _), some (24, _), some (25, _), some (26, _), some (27, _), some (28, _), some (29, _), some (22, _), some (30, _), some (31, _), none, none, none] [10, 11, 12] [] rfl (by decide) (by decide) (QAll.kept (by decide) rfl rfl ?q1x0_0 (QAll.free (by decide) rfl rfl ?q1x0_1 (QAll.kept (by decide) rfl rfl ?q1x0_2 (QAll.free (by decide) rfl rfl ?q1x0_3 (QAll.free (by decide) rfl rfl ?q1x0_4 (QAll.kept (by decide) rfl rfl ?q1x0_5 (QAll.free (by decide) rfl rfl ?q1x0_6 (QAll.free (by decide) rfl rfl ?q1x0_7 (QAll.free (by decide) rfl rfl ?q1x0_8 (QAll.free (by decide) rfl rfl ?q1x0_9 (QAll.skip (QAll.skip (QAll.skip QAll.nil))))))))))))) ?q1x0_k
      case q1x0_0 => (intro _ hK; exact Z.kw 0 hK ty26 rfl rfl rfl)
      case q1x0_1 => (intro _; exact Z.fa f26_3 rfl)
      case q1x0_2 => (intro _ hK; exact Z.kc 1 hK ty23 rfl rfl rfl)
      case q1x0_3 => (intro _; exact Z.mv rfl)
      case q1x0_4 => (intro _; exact Z.ia sl23 rfl rfl (by omega) (by assumption) (by rfl))
      case q1x0_5 => (intro _ hK; exact Z.lpc ty9 rfl)
      case q1x0_6 => (intro _; exact Z.call rfl rfl (fun H => hgt H))
      case q1x0_7 => (intro _; exact Z.mv rfl)
      case q1x0_8 => (intro _; exact Z.ex rfl rfl)
      case q1x0_9 => (intro _; exact Z.ex rfl rfl)
      refine CH.cons rfl rfl (by decide) ?_ (.c 1 rfl (.c 0 rfl .n))
      refine D.al z26 rfl rfl rfl (fun p8 => ?_)
      refine CH.cons0 rfl rfl ?_ (.c 2 rfl (.c 1 rfl .n))
      refine D.stw 0 ty26 rfl rfl rfl rfl (by exact encV_cell _) (encV_len _) rfl rfl (fun _ => ?_)
      refine CH.cons rfl rfl (by decide) ?_ (.c 2 rfl (.c 1 rfl .n))
      refine D.qu (Z.as rfl) ?_
      refine CH.nil ?_ (.c 2 rfl (.c 1 rfl .n))
      simp only [app, finL]
      refine UQ.then (S.sq ?_)
      refine' UW.draw' (by kernel_rfl) [0, 1, 0, 7, 15, 31, 63, 127, 127, 383, 127, 1919, 3967, 8191, 16383, 32767] [some 32, some 33, some 34, some 35, some 36, some 37, some 38, some 39, some 40, some 41, some 42, some 43, some 44, some 45, some 46, some 47] [some (32, _), some (33, _), some (34, _), some (35, _), some (36, _), some (37, _), some (38, _), some (39, _), some (40, _), some (41, _), some (42, _), some (43, _), some (44, _), some (45, _), some (46, _), some (47, _)] [] [1, 4, 7, 9, 12] rfl (by decide) (by decide) (QAll.free (by decide) rfl rfl ?q1x1_0 (QAll.held (by decide) rfl rfl ?q1x1_1 (QAll.free (by decide) rfl rfl ?q1x1_2 (QAll.free (by decide) rfl rfl ?q1x1_3 (QAll.held (by decide) rfl rfl ?q1x1_4 (QAll.free (by decide) rfl rfl ?q1x1_5 (QAll.free (by decide) rfl rfl ?q1x1_6 (QAll.held (by decide) rfl rfl ?q1x1_7 (QAll.free (by decide) rfl rfl ?q1x1_8 (QAll.held (by decide) rfl rfl ?q1x1_9 (QAll.free (by decide) rfl rfl ?q1x1_10 (QAll.free (by decide) rfl rfl ?q1x1_11 (QAll.held (by decide) rfl rfl ?q1x1_12 (QAll.free (by decide) rfl rfl ?q1x1_13 (QAll.free (by decide) rfl rfl ?q1x1_14 (QAll.free (by decide) rfl rfl ?q1x1_15 QAll.nil)))))))))))))))) ?q1x1_k
      case q1x1_0 => (intro _; exact Z.fa f26_3 rfl)
      case q1x1_1 => exact Z.ldc 1 ty23 rfl rfl rfl
      case q1x1_2 => (intro _; exact Z.mv rfl)
      case q1x1_3 => (intro _; exact Z.ia sl23 rfl rfl (by omega) (by assumption) (by rfl))
      case q1x1_4 => exact Z.lpc ty9 rfl
      case q1x1_5 => (intro _; exact Z.eq (u' := .v (.bool false)) (Z.bs rfl rfl rfl) (congrArg (fun b => AV.v (.bool (!b))) hcb))
      case q1x1_6 => (intro _; exact Z.mv rfl)
      case q1x1_7 => exact Z.of
      case q1x1_8 => (intro _; exact Z.of)
      case q1x1_9 => exact Z.of
      case q1x1_10 => (intro _; exact Z.of)
      case q1x1_11 => (intro _; exact Z.of)
      case q1x1_12 => exact Z.of
      case q1x1_13 => (intro _; exact Z.of)
      case q1x1_14 => (intro _; exact Z.of)
      case q1x1_15 => (intro _; exact Z.pick rfl rfl)
      refine CH.nil ?_
      simp only [app, finL]
      refine UQ.then ?_
      refine S.cF rfl rfl ?_
      refine UW.skip (UQ.blockN (UQ.then (S.rg ?_)))
      refine S.qu (Z.mv rfl) ?_
      refine S.qu (Z.add (r := ((j + 1 : Nat) : Int)) rfl rfl (IntWalk.i64_in _ (by omega))) ?_
      refine S.qu (Z.as rfl) ?_
      refine US.nil ?_
      refine S.back (j + 1) ⟨rfl, rfl, rfl, trivial⟩ (by repeat (first | exact List.Sublist.refl _ | exact List.nil_sublist _ | refine .cons_cons _ ?_ | refine .cons _ ?_)) (by omega) (by omega)
    · have hyj := hey hc
      subst hyj
      have hsj := fun H => sameR_spec y hfy y H
      have hss := same_self y hfy
      have hcb := beq_f hc
      refine S.sq (S.sq (S.rg ?_))
      refine S.qu (Z.mv rfl) ?_
      refine S.qu (Z.fa f26_3 rfl) ?_
      refine S.qu (Z.ldc 0 ty23 rfl rfl rfl) ?_
      refine S.qu (Z.lns sl23 rfl) ?_
      refine S.qu (Z.bi rfl rfl rfl) ?_
      refine US.nil (UQ.then ?_)
      refine S.cT rfl (decide_eq_true (by omega)) ?_
      refine UW.skip (UQ.then (S.sq (UW.block (S.sq ?_))))
      refine' UW.drawk (by kernel_rfl) [1, 0] [0, 0, 2, 0, 14, 30, 63, 127, 255, 255, 0, 1535, 4095] [some 23, some 24, some 25, some 26, some 27, some 28, some 29, some 22, some 30, some 31, none, none, none] [some (23, _), some (24, _), some (25, _), some (26, _), some (27, _), some (28, _), some (29, _), some (22, _), some (30, _), some (31, _), none, none, none] [10, 11, 12] [] rfl (by decide) (by decide) (QAll.kept (by decide) rfl rfl ?q2x0_0 (QAll.free (by decide) rfl rfl ?q2x0_1 (QAll.kept (by decide) rfl rfl ?q2x0_2 (QAll.free (by decide) rfl rfl ?q2x0_3 (QAll.free (by decide) rfl rfl ?q2x0_4 (QAll.kept (by decide) rfl rfl ?q2x0_5 (QAll.free (by decide) rfl rfl ?q2x0_6 (QAll.free (by decide) rfl rfl ?q2x0_7 (QAll.free (by decide) rfl rfl ?q2x0_8 (QAll.free (by decide) rfl rfl ?q2x0_9 (QAll.skip (QAll.skip (QAll.skip QAll.nil))))))))))))) ?q2x0_k
      case q2x0_0 => (intro _ hK; exact Z.kw 0 hK ty26 rfl rfl rfl)
      case q2x0_1 => (intro _; exact Z.fa f26_3 rfl)
      case q2x0_2 => (intro _ hK; exact Z.kc 1 hK ty23 rfl rfl rfl)
      case q2x0_3 => (intro _; exact Z.mv rfl)
      case q2x0_4 => (intro _; exact Z.ia sl23 rfl rfl (by omega) (by assumption) (by rfl))
      case q2x0_5 => (intro _ hK; exact Z.lpc ty9 rfl)
      case q2x0_6 => (intro _; exact Z.call rfl rfl (fun H => hgt H))
      case q2x0_7 => (intro _; exact Z.mv rfl)
      case q2x0_8 => (intro _; exact Z.ex rfl rfl)
      case q2x0_9 => (intro _; exact Z.ex rfl rfl)
      refine CH.cons rfl rfl (by decide) ?_ (.c 1 rfl (.c 0 rfl .n))
      refine D.al z26 rfl rfl rfl (fun p8 => ?_)
      refine CH.cons0 rfl rfl ?_ (.c 2 rfl (.c 1 rfl .n))
      refine D.stw 0 ty26 rfl rfl rfl rfl (by exact encV_cell _) (encV_len _) rfl rfl (fun _ => ?_)
      refine CH.cons rfl rfl (by decide) ?_ (.c 2 rfl (.c 1 rfl .n))
      refine D.qu (Z.as rfl) ?_
      refine CH.nil ?_ (.c 2 rfl (.c 1 rfl .n))
      simp only [app, finL]
      refine UQ.then (S.sq ?_)
      refine' UW.draw' (by kernel_rfl) [0, 1, 0, 7, 15, 31, 63, 127, 127, 383, 127, 1919, 3967, 8191, 16383, 32767] [some 32, some 33, some 34, some 35, some 36, some 37, some 38, some 39, some 40, some 41, some 42, some 43, some 44, some 45, some 46, some 47] [some (32, _), some (33, _), some (34, _), some (35, _), some (36, _), some (37, _), some (38, _), some (39, _), some (40, _), some (41, _), some (42, _), some (43, _), some (44, _), some (45, _), some (46, _), some (47, _)] [] [1, 4, 7, 9, 12] rfl (by decide) (by decide) (QAll.free (by decide) rfl rfl ?q2x1_0 (QAll.held (by decide) rfl rfl ?q2x1_1 (QAll.free (by decide) rfl rfl ?q2x1_2 (QAll.free (by decide) rfl rfl ?q2x1_3 (QAll.held (by decide) rfl rfl ?q2x1_4 (QAll.free (by decide) rfl rfl ?q2x1_5 (QAll.free (by decide) rfl rfl ?q2x1_6 (QAll.held (by decide) rfl rfl ?q2x1_7 (QAll.free (by decide) rfl rfl ?q2x1_8 (QAll.held (by decide) rfl rfl ?q2x1_9 (QAll.free (by decide) rfl rfl ?q2x1_10 (QAll.free (by decide) rfl rfl ?q2x1_11 (QAll.held (by decide) rfl rfl ?q2x1_12 (QAll.free (by decide) rfl rfl ?q2x1_13 (QAll.free (by decide) rfl rfl ?q2x1_14 (QAll.free (by decide) rfl rfl ?q2x1_15 QAll.nil)))))))))))))))) ?q2x1_k
      case q2x1_0 => (intro _; exact Z.fa f26_3 rfl)
      case q2x1_1 => exact Z.ldc 1 ty23 rfl rfl rfl
      case q2x1_2 => (intro _; exact Z.mv rfl)
      case q2x1_3 => (intro _; exact Z.ia sl23 rfl rfl (by omega) (by assumption) (by rfl))
      case q2x1_4 => exact Z.lpc ty9 rfl
      case q2x1_5 => (intro _; exact Z.eq (u' := .v (.bool true)) (Z.bs rfl rfl rfl) (congrArg (fun b => AV.v (.bool (!b))) hcb))
      case q2x1_6 => (intro _; exact Z.mv rfl)
      case q2x1_7 => exact Z.on (Z.ldw 0 ty26 rfl rfl (encV_len _))
      case q2x1_8 => (intro _; exact Z.on (Z.fa f26_4 rfl))
      case q2x1_9 => exact Z.on (Z.ldc 1 ty24 rfl rfl rfl)
      case q2x1_10 => (intro _; exact Z.on (Z.mv rfl))
      case q2x1_11 => (intro _; exact Z.on (Z.ia sl24 rfl rfl (by omega) (by assumption) (by exact encV_len _)))
      case q2x1_12 => exact Z.on (Z.lpa ty26 rfl (encV_len _))
      case q2x1_13 => (intro _; exact Z.on (Z.eq (u' := .v (.bool true)) (Z.call rfl rfl (fun H => hsj H)) (by rw [hss])))
      case q2x1_14 => (intro _; exact Z.on (Z.not rfl))
      case q2x1_15 => (intro _; exact Z.pick rfl rfl)
      refine CH.nil ?_
      simp only [app, finL]
      refine UQ.then ?_
      refine S.cF rfl rfl ?_
      refine UW.skip (UQ.blockN (UQ.then (S.rg ?_)))
      refine S.qu (Z.mv rfl) ?_
      refine S.qu (Z.add (r := ((j + 1 : Nat) : Int)) rfl rfl (IntWalk.i64_in _ (by omega))) ?_
      refine S.qu (Z.as rfl) ?_
      refine US.nil ?_
      refine S.back (j + 1) ⟨rfl, rfl, rfl, trivial⟩ (by repeat (first | exact List.Sublist.refl _ | exact List.nil_sublist _ | refine .cons_cons _ ?_ | refine .cons _ ?_)) (by omega) (by omega)
  · refine S.sq (S.sq (S.rg ?_))
    refine S.qu (Z.mv rfl) ?_
    refine S.qu (Z.fa f26_3 rfl) ?_
    refine S.qu (Z.ldc 0 ty23 rfl rfl rfl) ?_
    refine S.qu (Z.lns sl23 rfl) ?_
    refine S.qu (Z.bi rfl rfl rfl) ?_
    refine US.nil (UQ.then ?_)
    refine S.cF rfl (decide_eq_false (by omega)) ?_
    refine UW.exit (UQ.pass (UQ.pass (UQ.here (UQ.then (S.sq ?_)))))
    refine' UW.draw' (by kernel_rfl) [0, 1, 3, 7, 3, 31, 63, 127, 255, 511, 255, 2047, 4095, 8191, 16383, 32767, 65535, 131071, 262143, 524287, 1048575, 2097151, 4194303, 8388607] [some 48, some 49, some 50, some 51, some 52, some 53, some 54, some 55, some 56, some 57, some 58, some 59, some 60, some 61, some 62, some 63, some 64, some 65, some 66, some 67, some 68, some 69, some 70, some 4] [some (48, _), some (49, _), some (50, _), some (51, _), some (52, _), some (53, _), some (54, _), some (55, _), some (56, _), some (57, _), some (58, _), some (59, _), some (60, _), some (61, _), some (62, _), some (63, _), some (64, _), some (65, _), some (66, _), some (67, _), some (68, _), some (69, _), some (70, _), some (4, _)] [] [2, 4, 8, 10, 15, 19] rfl (by decide) (by decide) (QAll.free (by decide) rfl rfl ?q3x0_0 (QAll.free (by decide) rfl rfl ?q3x0_1 (QAll.held (by decide) rfl rfl ?q3x0_2 (QAll.free (by decide) rfl rfl ?q3x0_3 (QAll.held (by decide) rfl rfl ?q3x0_4 (QAll.free (by decide) rfl rfl ?q3x0_5 (QAll.free (by decide) rfl rfl ?q3x0_6 (QAll.free (by decide) rfl rfl ?q3x0_7 (QAll.held (by decide) rfl rfl ?q3x0_8 (QAll.free (by decide) rfl rfl ?q3x0_9 (QAll.held (by decide) rfl rfl ?q3x0_10 (QAll.free (by decide) rfl rfl ?q3x0_11 (QAll.free (by decide) rfl rfl ?q3x0_12 (QAll.free (by decide) rfl rfl ?q3x0_13 (QAll.free (by decide) rfl rfl ?q3x0_14 (QAll.held (by decide) rfl rfl ?q3x0_15 (QAll.free (by decide) rfl rfl ?q3x0_16 (QAll.free (by decide) rfl rfl ?q3x0_17 (QAll.free (by decide) rfl rfl ?q3x0_18 (QAll.held (by decide) rfl rfl ?q3x0_19 (QAll.free (by decide) rfl rfl ?q3x0_20 (QAll.free (by decide) rfl rfl ?q3x0_21 (QAll.free (by decide) rfl rfl ?q3x0_22 (QAll.free (by decide) rfl rfl ?q3x0_23 QAll.nil)))))))))))))))))))))))) ?q3x0_k
    case q3x0_0 => (intro _; exact Z.callg rfl rfl (fun _ hS => kn7_spec _ (hG.mono hS)))
    case q3x0_1 => (intro _; exact Z.mv rfl)
    case q3x0_2 => exact Z.on (Z.ldw 0 ty26 rfl rfl rfl)
    case q3x0_3 => (intro _; exact Z.on (Z.callg rfl rfl (fun _ hS => hred2 _ (hG.mono hS))))
    case q3x0_4 => exact Z.on (Z.ldw 0 ty26 rfl rfl rfl)
    case q3x0_5 => (intro _; exact Z.on (Z.call rfl rfl (fun H => hsm H)))
    case q3x0_6 => (intro _; exact Z.pick rfl rfl)
    case q3x0_7 => (intro _; exact Z.mv rfl)
    case q3x0_8 => exact Z.on (Z.ldw 0 ty26 rfl rfl rfl)
    case q3x0_9 => (intro _; exact Z.on (Z.callg rfl rfl (fun _ hS => hi1 _ (hG.mono hS))))
    case q3x0_10 => exact Z.on (Z.ldw 1 ty26 rfl rfl rfl)
    case q3x0_11 => (intro _; exact Z.on (Z.callg rfl rfl (fun _ hS => hi2 _ (hG.mono hS))))
    case q3x0_12 => (intro _; exact Z.on (Z.eq (u' := .v (.bool true)) (Z.bs rfl rfl rfl) (by simp)))
    case q3x0_13 => (intro _; exact Z.pick rfl rfl)
    case q3x0_14 => (intro _; exact Z.mv rfl)
    case q3x0_15 => exact Z.on (Z.ldw 0 ty26 rfl rfl rfl)
    case q3x0_16 => (intro _; exact Z.on (Z.call rfl rfl (fun H => hrt2 H)))
    case q3x0_17 => (intro _; exact Z.pick rfl rfl)
    case q3x0_18 => (intro _; exact Z.mv rfl)
    case q3x0_19 => exact Z.on (Z.ldw 1 ty26 rfl rfl rfl)
    case q3x0_20 => (intro _; exact Z.on (Z.callg rfl rfl (fun _ hS => hi2 _ (hG.mono hS))))
    case q3x0_21 => (intro _; exact Z.on (Z.call rfl rfl (fun H => hnm H)))
    case q3x0_22 => (intro _; exact Z.pick rfl rfl)
    case q3x0_23 => (intro _; exact Z.as rfl)
    refine CH.nil ?_
    simp only [app, finL]
    refine UQ.then (UW.ret ?_)
    refine S.rtR (fun _ => res_tmp rfl rfl) ?_
    rfl
end Go.Proofs.YtgmfgmbgmjbdhaaGreatDoor
