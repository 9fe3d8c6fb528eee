/- Print: the plain law, and numerals. -/
import Derived.Test.YtgmfgmbgmjbdhaaGreatDoorKy22
namespace Go.Proofs.YtgmfgmbgmjbdhaaGreatDoor
open Go Go.RowKit Go.Eng
set_option linter.unusedSimpArgs false
set_option linter.unusedVariables false
set_option maxRecDepth 100000
set_option maxHeartbeats 4000000
theorem ba_ext {a b : ByteArray} (h : a.data.toList = b.data.toList) : a = b := ByteArray.ext (Array.ext' h)
theorem ba_app (a b : ByteArray) : (a ++ b).data.toList = a.data.toList ++ b.data.toList := by rw [ByteArray.data_append, Array.toList_append]
theorem byteB_l (c : Int) : (byteB c).data.toList = [UInt8.ofNat c.toNat] := rfl
theorem decB_l (n : Int) : (decB n).data.toList = Lib.itoa n := rfl
theorem dec_step {u : Nat} (h : ¬ u < 10) : Lib.decDigits u = Lib.decDigits (u / 10) ++ [UInt8.ofNat (48 + u % 10)] := by rw [Lib.decDigits, dif_neg h]
theorem dec_ns {n : Int} (h : n < 0) (h1 : -10 < n) : byteB 45 ++ byteB (48 + -n) = decB n := by
  refine ba_ext ?_
  rw [ba_app, byteB_l, byteB_l, decB_l]
  unfold Lib.itoa
  rw [if_pos h, Lib.decDigits_one (by omega), show (48 + -n).toNat = 48 + n.natAbs from by omega]; rfl
theorem dec_nb {n : Int} (h : n ≤ -10) : decB (n.tdiv 10) ++ byteB (48 + -(n.tmod 10)) = decB n := by
  have h1 : n.tdiv 10 = -((n.natAbs / 10 : Nat) : Int) := by
    rw [show n = -((n.natAbs : Nat) : Int) from by omega, Int.neg_tdiv]
    congr 1
    rw [Int.natAbs_neg, Int.natAbs_natCast]; rfl
  have h2 : n.tmod 10 = -((n.natAbs % 10 : Nat) : Int) := by
    rw [show n = -((n.natAbs : Nat) : Int) from by omega, Int.neg_tmod]
    congr 1
    rw [Int.natAbs_neg, Int.natAbs_natCast]; rfl
  refine ba_ext ?_
  rw [ba_app, byteB_l, decB_l, decB_l, h1, h2]
  unfold Lib.itoa
  rw [if_pos (by omega), if_pos (by omega), Int.natAbs_neg, Int.natAbs_natCast, dec_step (u := n.natAbs) (by omega), show (48 + -(-((n.natAbs % 10 : Nat) : Int))).toNat = 48 + n.natAbs % 10 from by omega]; rfl
theorem dec_ps {n : Int} (h : 0 ≤ n) (h1 : n < 10) : byteB (48 + n) = decB n := by
  refine ba_ext ?_
  rw [byteB_l, decB_l]
  unfold Lib.itoa
  rw [if_neg (by omega), Lib.decDigits_one (by omega), show (48 + n).toNat = 48 + n.toNat from by omega]
theorem dec_pb {n : Int} (h : 10 ≤ n) : decB (n.tdiv 10) ++ byteB (48 + n.tmod 10) = decB n := by
  have h1 : n.tdiv 10 = n / 10 := Int.tdiv_eq_ediv_of_nonneg (by omega)
  have h2 : n.tmod 10 = n % 10 := Int.tmod_eq_emod_of_nonneg (by omega)
  refine ba_ext ?_
  rw [ba_app, byteB_l, decB_l, decB_l, h1, h2]
  unfold Lib.itoa
  rw [if_neg (by omega), if_neg (by omega), dec_step (u := n.toNat) (by omega), show (48 + n % 10).toNat = 48 + n.toNat % 10 from by omega, show (n / 10).toNat = n.toNat / 10 from by omega]
def sumS : List ByteArray → Nat
  | [] => 0
  | a :: r => a.size + 1 + sumS r
def comma : ByteArray := ⟨#[44]⟩
theorem joinB_l (l : List ByteArray) (sep : ByteArray) : (joinB l sep).data.toList = Lib.join (l.map (·.data.toList)) sep.data.toList := rfl
theorem joinTail_snoc (sep : List UInt8) (r : List (List UInt8)) (y : List UInt8) : Lib.joinTail sep (r ++ [y]) = Lib.joinTail sep r ++ sep ++ y := by unfold Lib.joinTail; simp [List.append_assoc]
theorem join_snoc (l : List ByteArray) (x sep : ByteArray) : joinB (l ++ [x]) sep = if l = [] then x else (joinB l sep ++ sep) ++ x := by
  cases l with
  | nil => exact ba_ext (by rw [joinB_l]; exact Lib.join_one _ _)
  | cons a r =>
    rw [if_neg (by simp)]
    refine ba_ext ?_
    rw [ba_app, ba_app, joinB_l, joinB_l, List.cons_append, List.map_cons, List.map_append, List.map_cons, List.map_nil, List.map_cons, Lib.join_cons, Lib.join_cons, joinTail_snoc]
    simp only [List.append_assoc]
theorem joinTail_size : ∀ r : List ByteArray, (Lib.joinTail comma.data.toList (r.map (·.data.toList))).length = sumS r
  | [] => rfl
  | a :: r => by
    have := joinTail_size r
    unfold Lib.joinTail at this ⊢
    simp only [List.map_cons, List.flatten_cons, List.length_append, this]
    show 1 + _ + _ = a.size + 1 + sumS r
    have : a.data.toList.length = a.size := data_len a
    omega
theorem joinB_size (l : List ByteArray) : (joinB l comma).size ≤ sumS l := by
  have h := data_len (joinB l comma)
  rw [← h, joinB_l]
  cases l with
  | nil => exact Nat.zero_le _
  | cons a r =>
    rw [List.map_cons, Lib.join_cons, List.length_append, joinTail_size]
    have : a.data.toList.length = a.size := data_len a
    show _ ≤ a.size + 1 + sumS r
    omega
theorem sumS_take : ∀ (l : List ByteArray) (k : Nat), sumS (l.take k) ≤ sumS l
  | [], k => by simp [sumS]
  | a :: r, 0 => Nat.zero_le _
  | a :: r, k + 1 => by have := sumS_take r k; show a.size + 1 + sumS (r.take k) ≤ a.size + 1 + sumS r; omega
theorem sumS_at : ∀ (l : List ByteArray) (k : Nat) (h : k < l.length), l[k].size ≤ sumS l
  | a :: r, 0, _ => by show a.size ≤ a.size + 1 + sumS r; omega
  | a :: r, k + 1, h => by have := sumS_at r k (by simpa using h); show (r[k]'(by simpa using h)).size ≤ a.size + 1 + sumS r; omega
/-- Elements, each behind its key. -/
def pairP (b : Bool) : List ByteArray → List ByteArray → List ByteArray
  | _, [] => []
  | [], p :: ps => p :: pairP b [] ps
  | key :: ks, p :: ps => (if b = true then (quoteB key ++ byteB 58) ++ p else p) :: pairP b ks ps
theorem pairP_len (b : Bool) : ∀ ks ps : List ByteArray, (pairP b ks ps).length = ps.length
  | [], [] => rfl
  | _ :: _, [] => rfl
  | [], p :: ps => by show _ + 1 = _ + 1; rw [pairP_len b [] ps]
  | _ :: ks, p :: ps => by show _ + 1 = _ + 1; rw [pairP_len b ks ps]
theorem pairP_nil (b : Bool) : ∀ ps : List ByteArray, pairP b [] ps = ps
  | [] => rfl
  | p :: ps => by show p :: _ = _; rw [pairP_nil b ps]
theorem pairP_at (b : Bool) : ∀ (ks ps : List ByteArray) (i : Nat), i < ps.length → (pairP b ks ps).getD i ⟨#[]⟩ = if b = true ∧ i < ks.length then (quoteB (ks.getD i ⟨#[]⟩) ++ byteB 58) ++ ps.getD i ⟨#[]⟩ else ps.getD i ⟨#[]⟩
  | [], ps, i, h => by rw [pairP_nil, if_neg (by rintro ⟨_, h2⟩; simp at h2)]
  | key :: ks, p :: ps, 0, h => by
    show (if b = true then _ else _) = _
    by_cases hb : b = true
    · rw [if_pos hb, if_pos ⟨hb, Nat.zero_lt_succ _⟩]; rfl
    · rw [if_neg hb, if_neg (fun h => hb h.1)]; rfl
  | key :: ks, p :: ps, i + 1, h => by
    show (pairP b ks ps).getD i ⟨#[]⟩ = _
    rw [pairP_at b ks ps i (by simpa using h)]
    show _ = if b = true ∧ i + 1 < ks.length + 1 then (quoteB (ks.getD i ⟨#[]⟩) ++ byteB 58) ++ ps.getD i ⟨#[]⟩ else ps.getD i ⟨#[]⟩
    by_cases hb : b = true ∧ i < ks.length
    · rw [if_pos hb, if_pos ⟨hb.1, by omega⟩]
    · rw [if_neg hb, if_neg (fun h => hb ⟨h.1, by omega⟩)]
def wtK : List ByteArray → Nat
  | [] => 0
  | a :: r => 6 * a.size + 4 + wtK r
theorem pairP_sum (b : Bool) : ∀ ks ps : List ByteArray, sumS (pairP b ks ps) ≤ wtK ks + sumS ps
  | [], ps => by rw [pairP_nil]; exact Nat.le_add_left _ _
  | _ :: _, [] => Nat.zero_le _
  | key :: ks, p :: ps => by
    have h1 := pairP_sum b ks ps
    have h2 := quoteB_size key
    show (if b = true then (quoteB key ++ byteB 58) ++ p else p).size + 1 + sumS (pairP b ks ps) ≤ 6 * key.size + 4 + wtK ks + (p.size + 1 + sumS ps)
    split
    · rw [app_size, app_size, byteB_size]; omega
    · omega
def nullB : ByteArray := ⟨#[110, 117, 108, 108]⟩
/-- What a value is printed as, its elements printed. -/
def prB (k n : Int) (t : ByteArray) (ks ps : List ByteArray) : ByteArray :=
  if k = 0 then nullB else if k = 1 then truthB (n == 1) else if k = 2 then decB n else if k = 3 then quoteB t else
  if k = 5 then (byteB 123 ++ joinB (pairP true ks ps) comma) ++ byteB 125 else (byteB 91 ++ joinB (pairP false ks ps) comma) ++ byteB 93
mutual
def printV : V → ByteArray
  | .mk k n t ks vs => prB k n t ks (printsV vs)
def printsV : List V → List ByteArray
  | [] => []
  | v :: r => printV v :: printsV r
end
theorem printsV_eq : ∀ l : List V, printsV l = l.map printV
  | [] => by rw [printsV]; rfl
  | v :: r => by rw [printsV, printsV_eq r]; rfl
theorem printV_mk (k n : Int) (t : ByteArray) (ks : List ByteArray) (vs : List V) : printV (.mk k n t ks vs) = prB k n t ks (vs.map printV) := by rw [printV, printsV_eq]
mutual
def wtV : V → Nat
  | .mk _ _ t ks vs => 30 + 6 * t.size + wtK ks + wtVs vs
def wtVs : List V → Nat
  | [] => 0
  | v :: r => wtV v + 1 + wtVs r
end
theorem wtV_mk (k n : Int) (t : ByteArray) (ks : List ByteArray) (vs : List V) : wtV (.mk k n t ks vs) = 30 + 6 * t.size + wtK ks + wtVs vs := by rw [wtV]
theorem wtVs_mem : ∀ {vs : List V} {x : V}, x ∈ vs → wtV x < wtVs vs + 1
  | v :: r, x, h => by
    rw [wtVs]
    rcases List.mem_cons.1 h with rfl | h
    · omega
    · have := wtVs_mem h; omega
theorem wtK_at : ∀ (ks : List ByteArray) (i : Nat) (h : i < ks.length), ks[i].size ≤ wtK ks
  | a :: r, 0, _ => by show a.size ≤ 6 * a.size + 4 + wtK r; omega
  | a :: r, k + 1, h => by have := wtK_at r k (by simpa using h); show (r[k]'(by simpa using h)).size ≤ 6 * a.size + 4 + wtK r; omega
/-- Numbers that an int64 holds. -/
inductive NumV : V → Prop
  | mk (k n : Int) (t : ByteArray) (ks : List ByteArray) (vs : List V) (h0 : -9223372036854775808 ≤ n) (h1 : n ≤ 9223372036854775807) (h : ∀ x ∈ vs, NumV x) : NumV (.mk k n t ks vs)
theorem sumS_wt : ∀ vs : List V, (∀ x ∈ vs, (printV x).size ≤ wtV x) → sumS (vs.map printV) ≤ wtVs vs
  | [], _ => Nat.zero_le _
  | v :: r, h => by
    have h1 := sumS_wt r (fun x hx => h x (List.mem_cons_of_mem _ hx))
    have h2 := h v (List.mem_cons_self ..)
    rw [wtVs]
    show (printV v).size + 1 + sumS (r.map printV) ≤ _
    omega
theorem truthB_size (b : Bool) : (truthB b).size ≤ 5 := by cases b <;> decide
theorem printV_size {x : V} (hn : NumV x) : (printV x).size ≤ wtV x := by
  induction hn with
  | mk k n t ks vs h0 h1 h ih =>
    have h2 := sumS_wt vs ih
    have h3 := pairP_sum true ks (vs.map printV)
    have h4 := pairP_sum false ks (vs.map printV)
    have h5 := joinB_size (pairP true ks (vs.map printV))
    have h6 := joinB_size (pairP false ks (vs.map printV))
    have h7 := quoteB_size t
    have h8 := decB_size n h0 h1
    have h9 := truthB_size (n == 1)
    have h10 : nullB.size = 4 := rfl
    rw [printV_mk, wtV_mk]
    unfold prB
    (repeat' split) <;> (try simp only [app_size, byteB_size]) <;> omega
/-- A value that can be printed. -/
structure Pr (x : V) : Prop where
  fits : Fits x
  num : NumV x
  wt : wtV x ≤ 1000000000
theorem Pr.kid {k n : Int} {t : ByteArray} {ks : List ByteArray} {vs : List V} (h : Pr (.mk k n t ks vs)) {x : V} (hx : x ∈ vs) : Pr x := by
  have h1 := h.fits; have h2 := h.num; have h3 := h.wt
  rw [wtV_mk] at h3
  have h4 := wtVs_mem hx
  cases h1 with | mk _ _ _ _ _ a b c => cases h2 with | mk _ _ _ _ _ d e f => exact ⟨c x hx, f x hx, by omega⟩
end Go.Proofs.YtgmfgmbgmjbdhaaGreatDoor
