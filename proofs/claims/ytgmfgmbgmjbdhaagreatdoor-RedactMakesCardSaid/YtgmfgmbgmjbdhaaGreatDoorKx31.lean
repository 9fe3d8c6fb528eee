/- slices.Chunk, in the engine's words. · Where no iterator over a string is under way. · A hasher is written to. · The digest of a row of bytes: the program's and the document's. -/
import Derived.Test.YtgmfgmbgmjbdhaaGreatDoorKx13
import Derived.Test.YtgmfgmbgmjbdhaaGreatDoorKx26
import Derived.Test.YtgmfgmbgmjbdhaaGreatDoorKx30
import Derived.Test.YtgmfgmbgmjbdhaaGreatDoorKx29
section
namespace Go.Proofs.YtgmfgmbgmjbdhaaGreatDoor
open Go Go.RowKit Go.Eng
set_option linter.unusedSimpArgs false
set_option linter.unusedVariables false
set_option maxRecDepth 100000
set_option maxHeartbeats 4000000
theorem chunk0_spec (rows : List (List AV)) (c : Int) (hc : 1 ≤ c) (H : Hp) : ACall Tryz.prog 83 [.sl rows, .v (.int .i64 c)] H (fun u H' => ∃ i j, u = .clo 118 [.ptr i 0, .ptr j 0] ∧ Dist H [(j, .box 3 [.v (.int .i64 c)]), (i, .box 22 [.sl rows])] ∧ H' = extH H [(j, .box 3 [.v (.int .i64 c)]), (i, .box 22 [.sl rows])]) := by
  refine UCall (n := 9) (H0 := H) (objs := []) Tryz.func83 (by kernel_rfl) rfl (by rw [Tryz.ntmps83]; rfl) .nil <| ?_
  refine Q.rg <| S.dd <| D.box rfl rfl rfl fun p2 => S.dd <| D.box rfl rfl rfl fun p3 => Q.as rfl <| Q.nt <| S.sq <| Q.rg <| Q.lc 0 ty3 rfl rfl rfl <| Q.bi rfl rfl rfl <| Q.nt <| S.cF rfl (decide_eq_false (by omega)) <| UW.skip <| UQ.then <| Q.rg <| S.qu (Z.mf rfl) <| Q.as rfl <| Q.nt <| UW.ret <| ?_
  exact retR [_, _] (fun _ => res_tmp rfl rfl) (.refl _) fun hd => ⟨_, _, rfl, hd, rfl⟩
theorem chunk_spec (rows : List (List AV)) (c : Int) (hc : 1 ≤ c) (H : Hp) : ACall Tryz.prog 83 [.sl rows, .v (.int .i64 c)] H (IsR H (.clo 118 [.rp [.sl rows], .rp [.v (.int .i64 c)]])) := by
  refine (chunk0_spec rows c hc H).post <| ?_
  rintro u H1 ⟨i, j, rfl, hd, rfl⟩
  refine ⟨_, H, ext_sub hd, ?_, rfl, rfl⟩
  have hi : extH H [(j, .box 3 [.v (.int .i64 c)]), (i, .box 22 [.sl rows])] i = some (.box 22 [.sl rows]) := hd.at_ (k := 1) rfl
  have hj : extH H [(j, .box 3 [.v (.int .i64 c)]), (i, .box 22 [.sl rows])] j = some (.box 3 [.v (.int .i64 c)]) := hd.at_ (k := 0) rfl
  refine Turns.clo rfl fun k u u' h1 h2 => ?_
  match k with
  | 0 => simp at h1 h2; subst h1 h2; exact Turns.rpb (ext_sub hd) hi (hd.base (k := 1) rfl)
  | 1 => simp at h1 h2; subst h1 h2; exact Turns.rpb (ext_sub hd) hj (hd.base (k := 0) rfl)
  | k + 2 => simp at h1
theorem rep_chunk {ok : Nat → Prop} {ρ : Rho} {w : World} {rows : List (List AV)} {a : Addr} {len cap : Nat} (hr : Rep ok ρ w (.sl rows) (.slice (some a) len cap)) (hs : ∀ cs ∈ rows, cs.length = 1) (c x : Nat) : Rep ok ρ w (.sl ((rows.drop x).take c)) (chunkVal a len c x) := by
  cases hr with
  | sl _ _ _ sz vals hcap hmax hok hsz hc hr2 =>
    have hl : min c (rows.length - x) = ((rows.drop x).take c).length := by simp
    unfold chunkVal
    rw [hl]
    refine .sl _ _ _ 1 (fun i j => vals (x + i) j) (by omega) (by rw [← hl]; omega) (fun hn => by rw [add_block]; exact hok (fun he => hn (by rw [he]; simp))) (fun cs hcs => hs cs (List.mem_of_mem_drop (List.mem_of_mem_take hcs))) (fun i cs j hi hj => ?_) (fun i cs j u hi hj => ?_)
    · rw [List.getElem?_take] at hi
      split at hi
      · rw [List.getElem?_drop] at hi
        have e1 : sz = 1 := by rw [← hs cs (List.mem_of_getElem? hi)]; exact (hsz cs (List.mem_of_getElem? hi)).symm
        have := hc _ cs j hi hj
        rw [e1] at this
        rw [add_add, show x + (i * 1 + j) = (x + i) * 1 + j from by omega]
        exact this
      · cases hi
    · rw [List.getElem?_take] at hi
      split at hi
      · rw [List.getElem?_drop] at hi
        exact hr2 _ cs j u hi hj
      · cases hi
theorem plain_addr {w : World} {a : Addr} {v : Value} (h : w.cell? (a.add 0) = some v) : a = ⟨a.block, a.off, none⟩ := by
  have e : a.add 0 = a := by unfold Addr.add; simp
  rw [e] at h
  obtain ⟨b, o, s⟩ := a
  cases s with
  | none => rfl
  | some s => unfold World.cell? at h; simp at h; split at h <;> simp_all
theorem kp_put {w : World} {b1 b2 : Nat} (h1 : b1 < w.heap.size) (h2 : b2 < w.heap.size) (W : World) (l : Nat) (o' : Obj) (hl : w.heap.size ≤ l) : chunkKp b1 b2 W (W.putObj l o') :=
  ⟨World.putObj_heap_other (by omega), World.putObj_heap_other (by omega)⟩
theorem chunk_iter (rows : List (List AV)) (hs : ∀ cs ∈ rows, cs.length = 1) (hl : rows.length ≤ 1000000000000) (c : Nat) (hc0 : 0 < c) (hc1 : c ≤ 1000) {ρ : Rho} {H : Hp} {w : World} {lb : List Value} (hh : HRel ρ H w) (hlb : Reps (okOf ρ H) ρ w [.rp [.sl rows], .rp [.v (.int .i64 (c : Int))]] lb) :
    ∃ encs Kp, Iter Tryz.prog (α := Nat) 118 lb.toArray (fun xs => ∃ k, xs = chunksUpto c k ∧ rows.length ≤ k * c ∧ (k = 0 ∨ (k - 1) * c < rows.length)) (fun xs => ∃ k, xs = chunksUpto c k) rows.length ρ H w (fun x => .sl ((rows.drop x).take c)) encs Kp := by
  obtain ⟨hl0, hr⟩ := hlb
  match lb, hl0, hr with
  | [v1, v2], hl0, hr =>
    have r1 := hr 0 _ _ rfl rfl
    have r2 := hr 1 _ _ rfl rfl
    clear hr hl0
    cases r1 with
    | rp _ a1 vals1 hok1 hc1' hr1 =>
      cases r2 with
      | rp _ a2 vals2 hok2 hc2' hr2 =>
        have c1 := (hc1' 0 (by simp)).1
        have r3 := hr1 0 _ rfl
        have c2 := (hc2' 0 (by simp)).1
        rw [rep_v (hr2 0 _ rfl)] at c2
        obtain ⟨k1, l1⟩ := hok1 (by simp)
        obtain ⟨k2, l2⟩ := hok2 (by simp)
        have p1 := plain_addr c1
        have p2 := plain_addr c2
        rw [show a1.add 0 = a1 from by unfold Addr.add; simp] at c1
        rw [show a2.add 0 = a2 from by unfold Addr.add; simp] at c2
        generalize vals1 0 = y at c1 r3
        obtain ⟨b1, o1, s1⟩ := a1
        obtain ⟨b2, o2, s2⟩ := a2
        cases p1
        cases p2
        have keep : ∀ ρ1 H1 W1 ρ2 H2 W2, Ext ρ H w ρ1 H1 W1 → Ext ρ1 H1 W1 ρ2 H2 W2 → chunkKp b1 b2 W1 W2 := fun ρ1 H1 W1 ρ2 H2 W2 e1 e2 =>
          ⟨e2.block b1 (Nat.lt_of_lt_of_le l1 e1.size) (fun ho => (e1.own b1 ho).elim k1 (fun h => absurd h (Nat.not_le.2 l1))), e2.block b2 (Nat.lt_of_lt_of_le l2 e1.size) (fun ho => (e1.own b2 ho).elim k2 (fun h => absurd h (Nat.not_le.2 l2)))⟩
        have trans : ∀ {A B C : World}, chunkKp b1 b2 A B → chunkKp b1 b2 B C → chunkKp b1 b2 A C := fun h1 h2 => ⟨h2.1.trans h1.1, h2.2.trans h1.2⟩
        cases r3 with
        | nil =>
          refine ⟨fun _ => .slice none 0 0, chunkKp b1 b2, ⟨fun l J Jx W hW hJ hJx hY h0 => ?_, trans, fun W l o o' h _ _ _ => kp_put l1 l2 W l o' h, fun x => by simpa using Rep.nil, keep⟩⟩
          refine (chunk0_in (fen none) 2 trivial rfl l b1 o1 b2 o2 none 0 J W ((hW.cell (p := ⟨b1, o1, none⟩) l1).trans c1) h0).mono <| ?_
          rintro e W' ⟨he, hj⟩
          exact ⟨he, .inl ⟨[], ⟨0, rfl, by simp, .inl rfl⟩, hj⟩⟩
        | sl _ a cap sz vals hcap hmax hok hsz hcc hrr =>
          refine ⟨chunkVal a rows.length c, chunkKp b1 b2, ⟨fun l J Jx W hW hJ hJx hY h0 => ?_, trans, fun W l o o' h _ _ _ => kp_put l1 l2 W l o' h, fun x => rep_chunk (.sl rows a cap sz vals hcap hmax hok hsz hcc hrr) hs c x, keep⟩⟩
          refine (chunk1_in (fen none) 2 trivial rfl (by decide) l b1 o1 b2 o2 a rows.length cap c hc0 hc1 hl hcap J Jx (fun pre W h => hJ pre W W.drew none h ⟨rfl, rfl, rfl, Nat.le_refl _, fun _ _ _ => rfl⟩ (fun r e => by cases e)) hY W ((hW.cell (p := ⟨b1, o1, none⟩) l1).trans c1) ((hW.cell (p := ⟨b2, o2, none⟩) l2).trans c2) h0).mono <| ?_
          rintro e W' ⟨he, ⟨k, g1, g2, g3⟩ | ⟨k, g1⟩⟩
          · exact ⟨he, .inl ⟨_, ⟨k, rfl, g1, g2⟩, g3⟩⟩
          · exact ⟨he, .inr ⟨_, ⟨k, rfl⟩, g1⟩⟩
end Go.Proofs.YtgmfgmbgmjbdhaaGreatDoor
end
section
namespace Go.Eng
open Go Go.RowKit
set_option linter.unusedVariables false
set_option linter.unusedSimpArgs false
set_option linter.unusedSectionVars false
def NoIt (H : Hp) : Prop := ∀ id ob, H id = some ob → notIter ob = true
theorem NoIt.ext {H0 : Hp} {os : List (Nat × Ob)} (h : NoIt H0) (ho : (os.all fun p => notIter p.2) = true) : NoIt (extH H0 os) := fun id ob hh => by
  rcases extH_memG hh with hh | hh
  · exact List.all_eq_true.1 ho _ hh
  · exact h id ob hh
theorem NoIt.raw {G : Hp} (h : RawH G) : NoIt G := fun id ob hh => by
  obtain ⟨g, x, rfl⟩ := h _ _ hh
  rfl
variable [Rd]
section
variable {P : Program} {n : Nat} {ops : Array Oper} {H0 : Hp} {l : List (Nat × AV)} {objs sel rst : List (Nat × Ob)} {dst : Option Nat} {ty : TypeId} {ps : String} {af : Array Edge} {cc : Operand} {args : Array Operand} {at_ : Array TypeId} {f : FuncId} {us caps : List AV} {R : AV → List (Nat × Ob) → Prop} {K : AV → List (Nat × Ob) → Prop}
/-- Objects handed to a call, where it is known what else there is. -/
theorem D.coe (hpk : Picks objs sel rst) (hc : evO l cc = some (.clo f caps)) (ha : argsO l args.toList = some us) (h : Dist (extH H0 rst) sel → ACall P f (us ++ caps) (extH (extH H0 rst) sel) (fun u H' => ∃ news, Dist (extH H0 rst) news ∧ H' = extH (extH H0 rst) news ∧ R u news)) (hk : ∀ u news, R u news → K u (news ++ rst)) :
    DS P n ops H0 ⟨dst, .call { callee := .value cc, args := args, argTypes := at_ }, ty, ps, af, none⟩ l objs K := fun hd => by
  obtain ⟨a, b, c⟩ := hpk.split hd
  refine Does.call rfl rfl (ev_of hc) ?_
  rw [args_of ha, c]
  exact (h b).mono fun u H' ⟨news, h1, h2, h3⟩ => ⟨news ++ rst, by rw [h2, extH_app], Dist.app a h1, hk u news h3⟩
/-- New objects of a call, where it is known what else there is. -/
theorem D.cne (hc : evO l cc = some (.clo f caps)) (ha : argsO l args.toList = some us) (h : Dist H0 objs → ACall P f (us ++ caps) (extH H0 objs) (fun u H' => ∃ news, Dist (extH H0 objs) news ∧ H' = extH (extH H0 objs) news ∧ R u news)) (hk : ∀ u news, R u news → K u (news ++ objs)) :
    DS P n ops H0 ⟨dst, .call { callee := .value cc, args := args, argTypes := at_ }, ty, ps, af, none⟩ l objs K := fun hd => by
  refine Does.call rfl rfl (ev_of hc) ?_
  rw [args_of ha]
  exact (h hd).mono fun u H' ⟨news, h1, h2, h3⟩ => ⟨news ++ objs, by rw [h2, extH_app], Dist.app hd h1, hk u news h3⟩
/-- A function of what stands by itself may be called as if nothing else were there but package variables. -/
theorem ACall.lowly {us : List AV} {r : AV} {H : Hp} (hR : RawH (low H)) (h : ACall P f us (low H) (IsR (low H) r)) (hr : plainR r = true) : ACall P f us H (IsR H r) :=
  ACall.borrow (low_sub H) (fun i ob hi => by obtain ⟨g, x, rfl⟩ := hR i ob hi; rfl) rfl (fun j u u' h1 h2 => by rw [h1] at h2; cases h2; exact Turns.drop (low_sub H) _) h hr
end
section
variable {β : Type} {H0 : Hp} {O Ox : β → List (Nat × Ob)} {J Jx : β → Prop} {ix : Nat} {l : List (Nat × AV)} {objs : List (Nat × Ob)}
/-- A round ends, the next may come. -/
theorem S.rdn (b : β) (hJ : J b) (ho : (O b).Sublist objs) : UQ (RoundQ H0 O Ox J Jx ix) H0 .normal l objs := fun hd => ⟨b, hJ, hd.sub ho, sub_of_mem hd (hd.sub ho) (fun _ hp => ho.subset hp)⟩
/-- A round leaves the loop. -/
theorem S.rdx (b : β) (hJ : Jx b) (ho : (Ox b).Sublist objs) : UQ (RoundQ H0 O Ox J Jx ix) H0 (.exit ix) l objs := fun hd => ⟨rfl, b, hJ, hd.sub ho, sub_of_mem hd (hd.sub ho) (fun _ hp => ho.subset hp)⟩
end
end Go.Eng
end
section
namespace Go.Proofs.YtgmfgmbgmjbdhaaGreatDoor
open Go Go.RowKit Go.Eng
set_option linter.unusedSimpArgs false
set_option linter.unusedVariables false
set_option maxRecDepth 100000
set_option maxHeartbeats 4000000
def cutB (all : List Int) (x : Nat) : List Int := (all.drop x).take 64
def foldW (h : W8) (all : List Int) (xs : List Nat) : W8 := xs.foldl (fun h x => takeW h (cutB all x)) h
theorem foldW_snoc (h : W8) (all : List Int) (xs : List Nat) (x : Nat) : foldW h all (xs ++ [x]) = takeW (foldW h all xs) (cutB all x) := by unfold foldW; rw [List.foldl_append]; rfl
theorem cutB_len (all : List Int) (x : Nat) : (cutB all x).length = min 64 (all.length - x) := by unfold cutB; rw [List.length_take, List.length_drop]
theorem cutB_ok {all : List Int} (h : ByteL all) (x : Nat) : ByteL (cutB all x) := fun c hc => h c (List.mem_of_mem_drop (List.mem_of_mem_take hc))
theorem ByteL.app {a b : List Int} (ha : ByteL a) (hb : ByteL b) : ByteL (a ++ b) := fun c hc => (List.mem_append.1 hc).elim (ha c) (hb c)
theorem ByteL.drop {a : List Int} (ha : ByteL a) (n : Nat) : ByteL (a.drop n) := fun c hc => ha c (List.mem_of_mem_drop hc)
/-- What a hasher is, all of it read. -/
def eatW (h : W8) (all : List Int) : W8 := foldW h all (chunksUpto 64 (all.length / 64))
def restW (all : List Int) : List Int := all.drop (64 * (all.length / 64))
/-- Between rounds: all that came was whole. -/
def JW (h : W8) (all : List Int) (xs : List Nat) (b : W8 × List Int) : Prop := b = (foldW h all xs, []) ∧ ∀ x ∈ xs, x + 64 ≤ all.length
def JxW (h : W8) (all : List Int) (xs : List Nat) (b : W8 × List Int) : Prop := ∃ pre x, xs = pre ++ [x] ∧ b = (foldW h all pre, cutB all x) ∧ (∀ y ∈ pre, y + 64 ≤ all.length) ∧ ¬ x + 64 ≤ all.length
theorem chunks_len (k : Nat) : (chunksUpto 64 k).length = k := by unfold chunksUpto; simp
theorem chunks_inj {k : Nat} {pre : List Nat} {x : Nat} (h : chunksUpto 64 k = pre ++ [x]) : ∃ q, k = q + 1 ∧ pre = chunksUpto 64 q ∧ x = q * 64 := by
  cases k with
  | zero => have := congrArg List.length h; rw [chunks_len, List.length_append] at this; simp at this
  | succ q =>
    rw [chunksUpto_succ] at h
    obtain ⟨h1, h2⟩ := List.append_inj' h rfl
    exact ⟨q, rfl, h1.symm, by simpa using h2.symm⟩
theorem mem_chunks {k y : Nat} : y ∈ chunksUpto 64 k ↔ ∃ q, q < k ∧ y = q * 64 := by
  unfold chunksUpto
  rw [List.mem_map]
  constructor
  · rintro ⟨q, hq, rfl⟩; exact ⟨q, List.mem_range.1 hq, rfl⟩
  · rintro ⟨q, hq, rfl⟩; exact ⟨q, List.mem_range.2 hq, rfl⟩
theorem done_eat {h : W8} {all : List Int} {k : Nat} {b : W8 × List Int} (h1 : all.length ≤ k * 64) (h2 : k = 0 ∨ (k - 1) * 64 < all.length) (hJ : JW h all (chunksUpto 64 k) b) : b = (eatW h all, restW all) := by
  obtain ⟨rfl, hf⟩ := hJ
  have hk : all.length = k * 64 := by
    cases k with
    | zero => omega
    | succ q => have := hf (q * 64) (mem_chunks.2 ⟨q, by omega, rfl⟩); omega
  unfold eatW restW
  rw [show all.length / 64 = k from by omega, List.drop_eq_nil_of_le (by omega)]
theorem stop_eat {h : W8} {all : List Int} {k : Nat} {b : W8 × List Int} (hJ : JxW h all (chunksUpto 64 k) b) : b = (eatW h all, restW all) := by
  obtain ⟨pre, x, hp, rfl, hf, hx⟩ := hJ
  obtain ⟨q, rfl, rfl, rfl⟩ := chunks_inj hp
  have hq : q * 64 ≤ all.length := by
    cases q with
    | zero => omega
    | succ r => have := hf (r * 64) (mem_chunks.2 ⟨r, by omega, rfl⟩); omega
  unfold eatW restW cutB
  rw [show all.length / 64 = q from by omega, show 64 * q = q * 64 from by omega, List.take_of_length_le (by rw [List.length_drop]; omega)]
theorem concat2_spec (a b : List Int) (hs : a.length + b.length ≤ 100000000000) (H : Hp) : ACall Tryz.prog 120 [.sl [[.sl (encY a)], [.sl (encY b)]]] H (IsR H (.sl (encY (a ++ b)))) := by
  have h := concat_spec [a, b] (by show 2 ≤ 1000; decide) (by simp; omega) H
  rw [show [a, b].flatten = a ++ b from by simp] at h
  exact h
theorem write_spec (h : W8) (left b : List Int) (n : Nat) (hn : n ≤ 10000000000) (hb : b.length ≤ 10000000000) (hll : left.length ≤ 64) (hbb : ByteL b) (hlb : ByteL left) (p : Nat) (G : Hp) (hG : NoIt G) (hd : Dist G [(p, .box 124 (hsrC h left n))]) : ACall Tryz.prog 87 [.ptr p 0, .sl (encY b)] (extH G [(p, .box 124 (hsrC h left n))]) (fun u H' => ∃ news, Dist G news ∧ H' = extH G news ∧ (u = .v (.int .i64 (b.length : Int)) ∧ news = [(p, .box 124 (hsrC (eatW h (left ++ b)) (restW (left ++ b)) (n + b.length)))])) := by
  have hbl := encY_len b
  have hal : (left ++ b).length = left.length + b.length := List.length_append
  have hab : ByteL (left ++ b) := hlb.app hbb
  refine UCall (n := 51) (H0 := G) (objs := [(p, .box 124 (hsrC h left n))]) Tryz.func87 (by kernel_rfl) rfl (by rw [Tryz.ntmps87]; rfl) hd <| ?_
  refine Q.rg <| S.dd <| D.box rfl rfl rfl fun p2 => Q.as rfl <| Q.nt <| S.sq <| Q.rg <| Q.lc 0 ty91 rfl rfl rfl <| S.qu (Z.pnf Tryz.underlying91 rfl) <| Q.nt <| S.cF rfl rfl <| UW.skip <| UQ.then <| Q.rg <| Q.lc 0 ty91 rfl rfl rfl <| S.qu (Z.nck rfl) <| Q.fa f124_2 rfl <| Q.lc 1 ty122 rfl rfl rfl <| Q.mv rfl <| S.qu (Z.eq (u' := .v (.int .i64 (b.length : Int))) (Z.lns sl22 rfl) (by rw [hbl])) <| ?_
  refine S.qu (Z.cv Tryz.underlying122 rfl (IntWalk.u64_in _ (by omega)) (by rw [Tryz.underlying3]; rfl)) <| ?_
  refine S.qu (Z.add (r := ((n + b.length : Nat) : Int)) rfl rfl (by rw [IntWalk.u64_in _ (by omega)]; omega)) <| ?_
  refine S.qu (Z.nck rfl) <| Q.fa f124_2 rfl <| S.s <| D.st 1 ty122 rfl rfl rfl rfl rfl rfl rfl rfl fun _ => Q.nt <| Q.rg <| Q.lc 0 ty91 rfl rfl rfl <| S.qu (Z.nck rfl) <| Q.fa f124_1 rfl <| Q.lc 1 ty22 rfl rfl rfl <| Q.mv rfl <| S.qu (Z.bl row149 rfl rfl (lit_ok rfl)) <| S.qu (Z.call rfl rfl (fun H => concat2_spec left b (by omega) H)) <| Q.as rfl <| Q.nt <| Q.rg <| Q.lc 0 ty91 rfl rfl rfl <| S.qu (Z.nck rfl) <| Q.fa f124_1 rfl <| S.s <| D.st 1 ty22 rfl rfl rfl rfl rfl rfl rfl rfl fun _ => Q.nt <| S.sq <| Q.rg <| Q.mv rfl <| US.nils 1 (objs' := [(p2, .box 91 [.ptr p 0]), (p, .box 124 (hsrC h [] (n + b.length)))]) rfl rfl <| S.qu (Z.call rfl rfl (fun H => chunk_spec _ 64 (by decide) H)) <| Q.nt <| UW.block <| ?_
  generalize left ++ b = all at hal hab ⊢
  have hfe : (fun x : Nat => AV.sl (((encY all).drop x).take 64)) = fun x => AV.sl (encY (cutB all x)) := by
    funext x; unfold cutB; rw [encY_drop, encY_take]
  refine UW.rangeFunc (α := Nat) (β := W8 × List Int) (gf := 118) (caps := [.rp [.sl (encY all)], .rp [.v (.int .i64 64)]]) (fun xs => ∃ k, xs = chunksUpto 64 k ∧ (encY all).length ≤ k * 64 ∧ (k = 0 ∨ (k - 1) * 64 < (encY all).length)) (fun xs => ∃ k, xs = chunksUpto 64 k) (encY all).length (fun x => .sl (encY (cutB all x))) 0 rfl ⟨_, rfl, by kernel_rfl, by kernel_rfl⟩ (by decide) (by decide) (fun ρ w lb h1 h2 => hfe ▸ chunk_iter (encY all) (encY_sz all) (by rw [encY_len]; omega) 64 (by decide) (by decide) h1 h2) (fun b1 => [(p2, .box 91 [.ptr p 0]), (p, .box 124 (hsrC b1.1 b1.2 (n + b.length)))]) (fun b1 => [(p2, .box 91 [.ptr p 0]), (p, .box 124 (hsrC b1.1 b1.2 (n + b.length)))]) (JW h all) (JxW h all) (h, []) ⟨rfl, fun x hx => by cases hx⟩ rfl hG (fun _ => rfl) (fun _ => rfl) ?_ ?_ ?_
  · intro lp pre x b1 hJ hN
    letI : Rd := ⟨some lp⟩
    obtain ⟨rfl, hf⟩ := hJ
    dsimp only
    have hcl := cutB_len all x
    have hce := encY_len (cutB all x)
    have hco := cutB_ok hab x
    by_cases hx : x + 64 ≤ all.length
    · refine UW.block <| S.sq <| Q.rg <| Q.mv rfl <| S.qu (Z.lns sl22 rfl) <| Q.bi rfl rfl rfl <| Q.nt <| S.cF rfl (decide_eq_false (by omega)) <| UW.skip <| UQ.then <| ?_
      refine' UW.draw' (by kernel_rfl) [0, 0, 2, 6, 14, 0, 62, 127, 255, 511] [some 40, some 41, some 42, some 43, some 44, some 45, some 46, some 47, some 48, none] [some (40, _), some (41, _), some (42, _), some (43, _), some (44, _), some (45, _), some (46, _), some (47, _), some (48, _), none] [9] [0, 1, 4] rfl (by decide) (by decide) (QAll.held (by decide) rfl rfl ?q1x0_0 (QAll.held (by decide) rfl rfl ?q1x0_1 (QAll.free (by decide) rfl rfl ?q1x0_2 (QAll.free (by decide) rfl rfl ?q1x0_3 (QAll.held (by decide) rfl rfl ?q1x0_4 (QAll.free (by decide) rfl rfl ?q1x0_5 (QAll.free (by decide) rfl rfl ?q1x0_6 (QAll.free (by decide) rfl rfl ?q1x0_7 (QAll.free (by decide) rfl rfl ?q1x0_8 (QAll.skip QAll.nil)))))))))) ?q1x0_k
      case q1x0_0 => exact Z.ldc 0 ty91 rfl rfl rfl
      case q1x0_1 => exact Z.ldc 0 ty91 rfl rfl rfl
      case q1x0_2 => (intro _; exact Z.nck rfl)
      case q1x0_3 => (intro _; exact Z.fa f124_0 rfl)
      case q1x0_4 => exact Z.lda 1 ty121 rfl rfl rfl
      case q1x0_5 => (intro _; exact Z.mv rfl)
      case q1x0_6 => (intro _; exact Z.call rfl rfl (fun H => take_spec (foldW h all pre) (cutB all x) (by omega) hco H))
      case q1x0_7 => (intro _; exact Z.nck rfl)
      case q1x0_8 => (intro _; exact Z.fa f124_0 rfl)
      refine CH.cons0 rfl rfl <| D.st 1 ty121 rfl rfl rfl rfl rfl rfl rfl rfl fun _ => CH.nil <| ?_
      simp only [app, finL]
      refine UQ.blockN <| ?_
      exact S.rdn (takeW (foldW h all pre) (cutB all x), []) ⟨by rw [foldW_snoc], fun y hy => (List.mem_append.1 hy).elim (hf y) (fun e => by rw [List.mem_singleton.1 e]; exact hx)⟩ (.refl _)
    · refine UW.block <| S.sq <| Q.rg <| Q.mv rfl <| S.qu (Z.lns sl22 rfl) <| Q.bi rfl rfl rfl <| Q.nt <| S.cT rfl (decide_eq_true (by omega)) <| S.sq <| ?_
      refine' UW.draw' (by kernel_rfl) [0, 0, 2, 7, 15, 31] [some 35, some 36, some 37, some 38, some 39, none] [some (35, _), some (36, _), some (37, _), some (38, _), some (39, _), none] [5] [0] rfl (by decide) (by decide) (QAll.held (by decide) rfl rfl ?q2x0_0 (QAll.free (by decide) rfl rfl ?q2x0_1 (QAll.free (by decide) rfl rfl ?q2x0_2 (QAll.free (by decide) rfl rfl ?q2x0_3 (QAll.free (by decide) rfl rfl ?q2x0_4 (QAll.skip QAll.nil)))))) ?q2x0_k
      case q2x0_0 => exact Z.ldc 0 ty91 rfl rfl rfl
      case q2x0_1 => (intro _; exact Z.mv rfl)
      case q2x0_2 => (intro _; exact Z.call rfl rfl (fun H => cloneB_spec (cutB all x) (by omega) H))
      case q2x0_3 => (intro _; exact Z.nck rfl)
      case q2x0_4 => (intro _; exact Z.fa f124_1 rfl)
      refine CH.cons0 rfl rfl <| D.st 1 ty22 rfl rfl rfl rfl rfl rfl rfl rfl fun _ => CH.nil <| ?_
      simp only [app, finL]
      refine UQ.then <| UW.exit <| UQ.pass <| UQ.out (by decide) <| ?_
      exact S.rdx (foldW h all pre, cutB all x) ⟨pre, x, rfl, rfl, hf, hx⟩ (.refl _)
  · rintro xs b1 ⟨k, rfl, h1, h2⟩ hJ
    rw [encY_len] at h1 h2
    rw [done_eat h1 h2 hJ]
    refine UQ.blockN <| UQ.then <| Q.rg <| Q.mv rfl <| S.qu (Z.lns sl22 rfl) <| Q.as rfl <| Q.nt <| UW.ret <| ?_
    exact retR [_] (fun _ => res_tmp rfl rfl) (.cons _ (.refl _)) fun hd => ⟨_, hd, rfl, by rw [hbl], rfl⟩
  · rintro pre b1 ⟨k, rfl⟩ hJ
    rw [stop_eat hJ]
    refine UQ.here <| UQ.then <| Q.rg <| Q.mv rfl <| S.qu (Z.lns sl22 rfl) <| Q.as rfl <| Q.nt <| UW.ret <| ?_
    exact retR [_] (fun _ => res_tmp rfl rfl) (.cons _ (.refl _)) fun hd => ⟨_, hd, rfl, by rw [hbl], rfl⟩
end Go.Proofs.YtgmfgmbgmjbdhaaGreatDoor
end
section
namespace Go.Proofs.YtgmfgmbgmjbdhaaGreatDoor
open Go Go.RowKit Go.Eng
set_option linter.unusedSimpArgs false
set_option linter.unusedVariables false
set_option maxRecDepth 100000
set_option maxHeartbeats 4000000
def outW (w : Int) : List Int := [IntKind.u8.wrap (shrW w 24), IntKind.u8.wrap (shrW w 16), IntKind.u8.wrap (shrW w 8), IntKind.u8.wrap w]
def outU (h : W8) (j : Nat) : List Int := ((h.l.take j).map outW).flatten
def outB (h : W8) : List Int := outU h 8
theorem outU_len (h : W8) (j : Nat) (hj : j ≤ 8) : (outU h j).length = 4 * j := by
  have : ∀ l : List Int, ((l.map outW).flatten).length = 4 * l.length := by
    intro l
    induction l with
    | nil => rfl
    | cons x r ih => rw [List.map_cons, List.flatten_cons, List.length_append, ih, List.length_cons]; show 4 + _ = _; omega
  unfold outU
  rw [this, List.length_take, show h.l.length = 8 from rfl, Nat.min_eq_left hj]
theorem outU_succ (h : W8) (j : Nat) (hj : j < 8) : outU h (j + 1) = outU h j ++ outW (h.l.getD j 0) := by
  unfold outU
  have hl : j < h.l.length := hj
  rw [List.take_add_one, List.getElem?_eq_getElem hl, List.map_append, List.flatten_append, List.getD_eq_getElem?_getD, List.getElem?_eq_getElem hl]
  simp
theorem outU_enc (h : W8) (j : Nat) (hj : j < 8) : (encY (outU h j)).take (4 * j) ++ [[.v (.int .u8 (IntKind.u8.wrap (shrW (h.l.getD j 0) 24)))], [.v (.int .u8 (IntKind.u8.wrap (shrW (h.l.getD j 0) 16)))], [.v (.int .u8 (IntKind.u8.wrap (shrW (h.l.getD j 0) 8)))], [.v (.int .u8 (IntKind.u8.wrap (h.l.getD j 0)))]] = encY (outU h (j + 1)) := by
  rw [List.take_of_length_le (by rw [encY_len, outU_len h j (by omega)]; omega), outU_succ h j hj, encY_app]; rfl
theorem byteWrap (x : Int) : 0 ≤ IntKind.u8.wrap x ∧ IntKind.u8.wrap x < 256 := by rw [IntKind.wrap_u8]; omega
theorem outB_ok (h : W8) : ByteL (outB h) := by
  intro c hc
  unfold outB outU at hc
  obtain ⟨l, hl, hcl⟩ := List.mem_flatten.1 hc
  obtain ⟨w, _, rfl⟩ := List.mem_map.1 hl
  unfold outW at hcl
  simp only [List.mem_cons, List.mem_nil_iff, or_false] at hcl
  rcases hcl with rfl | rfl | rfl | rfl <;> exact byteWrap _
theorem outB_len (h : W8) : (outB h).length = 32 := outU_len h 8 (by decide)
theorem rest_len (all : List Int) : (restW all).length ≤ 64 := by unfold restW; rw [List.length_drop]; omega
/-- All of it in two parts, or at once. -/
theorem chunks_add (q r : Nat) : chunksUpto 64 (q + r) = chunksUpto 64 q ++ (chunksUpto 64 r).map (q * 64 + ·) := by
  induction r with
  | zero => simp [chunksUpto]
  | succ r ih => rw [← Nat.add_assoc, chunksUpto_succ, ih, chunksUpto_succ, List.map_append, List.append_assoc]; congr 2; simp; omega
theorem foldl_congr' {α β γ : Type} (g : β → α → β) (g' : β → γ → β) (f : α → γ) : ∀ (xs : List α) (h : β), (∀ x ∈ xs, ∀ b, g b x = g' b (f x)) → xs.foldl g h = (xs.map f).foldl g' h
  | [], _, _ => rfl
  | x :: r, h, hc => by
    rw [List.map_cons, List.foldl_cons, List.foldl_cons, hc x (by simp)]
    exact foldl_congr' g g' f r _ (fun y hy => hc y (by simp [hy]))
theorem foldW_congr {all all' : List Int} (xs : List Nat) (f : Nat → Nat) (h : W8) (hc : ∀ x ∈ xs, cutB all x = cutB all' (f x)) : foldW h all xs = foldW h all' (xs.map f) := by
  unfold foldW
  exact foldl_congr' _ _ f xs h (fun x hx b => by rw [hc x hx])
theorem foldW_app (h : W8) (all : List Int) (xs ys : List Nat) : foldW h all (xs ++ ys) = foldW (foldW h all xs) all ys := by unfold foldW; rw [List.foldl_append]
theorem eat_app (h : W8) (b t : List Int) : eatW (eatW h b) (restW b ++ t) = eatW h (b ++ t) := by
  have hrl : (restW b).length = b.length - 64 * (b.length / 64) := by unfold restW; rw [List.length_drop]
  have hq : (b ++ t).length / 64 = b.length / 64 + (restW b ++ t).length / 64 := by rw [List.length_append, List.length_append, hrl]; omega
  unfold eatW
  rw [hq, chunks_add, foldW_app]
  have e1 : foldW h b (chunksUpto 64 (b.length / 64)) = foldW h (b ++ t) (chunksUpto 64 (b.length / 64)) := by
    have := foldW_congr (all := b) (all' := b ++ t) (chunksUpto 64 (b.length / 64)) id h (fun x hx => by
      obtain ⟨q, hq1, rfl⟩ := mem_chunks.1 hx
      unfold cutB id
      rw [List.drop_append_of_le_length (by omega), List.take_append_of_le_length (by rw [List.length_drop]; omega)])
    rwa [List.map_id] at this
  rw [e1]
  refine foldW_congr _ _ _ fun x hx => ?_
  unfold cutB restW
  rw [← List.drop_append_of_le_length (l₂ := t) (by omega), List.drop_drop]
  congr 2; omega
def shaB (b : List Int) : List Int := outB (eatW W0 (b ++ tailB b.length))
theorem shaB_def (b : List Int) : shaB b = outB (eatW W0 (b ++ tailB b.length)) := rfl
theorem shaB_ok (b : List Int) : ByteL (shaB b) := outB_ok _
theorem shaB_len (b : List Int) : (shaB b).length = 32 := outB_len _
theorem hsum_spec (h : W8) (left : List Int) (n : Nat) (hn : n ≤ 10000000000) (hll : left.length ≤ 64) (hlb : ByteL left) (p : Nat) (G : Hp) (hG : NoIt G) (hd : Dist G [(p, .box 124 (hsrC h left n))]) : ACall Tryz.prog 88 [.ptr p 0] (extH G [(p, .box 124 (hsrC h left n))]) (fun u H' => ∃ news, Dist G news ∧ H' = extH G news ∧ (u = .sl (encY (outB (eatW h (left ++ tailB n)))) ∧ news = [(p, .box 124 (hsrC h left n))])) := by
  have htl := tailB_len n
  have hz : zN n < 64 := by unfold zN; omega
  refine UCall (n := 40) (H0 := G) (objs := [(p, .box 124 (hsrC h left n))]) Tryz.func88 (by kernel_rfl) rfl (by rw [Tryz.ntmps88]; rfl) hd <| ?_
  refine Q.rg <| Q.as rfl <| Q.nt <| S.sq <| Q.rg <| Q.mv rfl <| S.qu (Z.pnf Tryz.underlying91 rfl) <| Q.nt <| S.cF rfl rfl <| UW.skip <| UQ.then <| Q.rg <| Q.mv rfl <| S.qu (Z.nck rfl) <| S.qu (Z.ldw 0 ty124 rfl rfl rfl) <| S.dd <| D.al z124 rfl rfl rfl fun p3 => S.s <| D.st 0 ty124 rfl rfl rfl rfl rfl rfl rfl rfl fun _ => Q.nt <| Q.rg <| Q.mv rfl <| S.qu (Z.nck rfl) <| Q.fa f124_2 rfl <| Q.lc 1 ty122 rfl rfl rfl <| S.qu (Z.call rfl rfl (fun _ => tail_spec n (by omega) _)) <| S.dd <| D.coe (.cons 0 rfl .nil) rfl rfl (fun hD => write_spec h left (tailB n) n (by omega) (by omega) hll (tailB_ok n) hlb p3 _ (hG.ext rfl) hD) <| ?_
  rintro _ _ ⟨rfl, rfl⟩
  refine Q.nt <| Q.rg <| Q.as rfl <| US.nilOwn 4 5 1 (by decide) rfl fun p4 => Q.nt <| S.sq <| Q.rg <| Q.fa f124_0 rfl <| S.qu (Z.lda 1 ty121 rfl rfl rfl) <| Q.mv rfl <| Q.nt <| UW.block <| ?_
  generalize eatW h (left ++ tailB n) = x
  refine S.loop (fun j : Nat × Nat => [(21, .v (.int .i64 (j.1 : Int))), (20, .agg (encW x.l)), (4, .own j.2 0 (4 * j.1) 1)]) (fun j => [(j.2, .row 5 1 (encY (outU x j.1))), (p, .box 124 (hsrC h left n))]) (fun j => j.1 ≤ 8) (fun j => 8 - j.1) (0, p4) (Nat.zero_le _) ⟨rfl, rfl, rfl, trivial⟩ (.cons_cons _ (.cons _ (.refl _))) <| ?_
  rintro ⟨j, r⟩ hj
  dsimp only at hj ⊢
  have hrl := encY_len (outU x j)
  rw [outU_len x j hj] at hrl
  by_cases hlt : j < 8
  · have hk := encW_get x.l j hlt
    have hap := outU_enc x j hlt
    refine Q.rg <| Q.bi rfl rfl rfl <| Q.nt <| S.sq <| S.cT rfl (decide_eq_true (by omega)) <| UW.skip <| UQ.then <| S.sq <| UW.block <| Q.rg <| S.qu (Z.xar ar121 ty119 rfl rfl (by omega) (by omega) hk) <| Q.as rfl <| Q.nt <| S.rg <| Q.mv rfl <| Q.mv rfl <| S.qu (Z.wshr rfl rfl (by omega)) <| S.qu (Z.cv Tryz.underlying5 rfl rfl (by rw [Tryz.underlying119]; rfl)) <| ?_
    refine Q.mv rfl <| S.qu (Z.wshr rfl rfl (by omega)) <| S.qu (Z.cv Tryz.underlying5 rfl rfl (by rw [Tryz.underlying119]; rfl)) <| ?_
    refine Q.mv rfl <| S.qu (Z.wshr rfl rfl (by omega)) <| S.qu (Z.cv Tryz.underlying5 rfl rfl (by rw [Tryz.underlying119]; rfl)) <| ?_
    refine Q.mv rfl <| S.qu (Z.cv Tryz.underlying5 rfl rfl (by rw [Tryz.underlying119]; rfl)) <| ?_
    refine S.qu (Z.bl row22 rfl rfl (lit_ok rfl)) <| S.dd <| D.ap 0 row22 rfl rfl (by omega) rfl (.sl (lit_sz rfl)) (by first | omega | (simp; omega)) hap fun p37 => ?_
    refine Q.as rfl <| US.nil <| UQ.blockN <| UQ.then <| S.rg <| S.qu (Z.add (r := ((j + 1 : Nat) : Int)) rfl rfl (IntWalk.i64_in _ (by omega))) <| Q.mv rfl <| US.nil <| ?_
    refine S.back (j + 1, p37) ⟨rfl, rfl, rfl, trivial⟩ (.refl _) (by omega) (by omega)
  · have hj8 : j = 8 := by omega
    subst hj8
    refine Q.rg <| Q.bi rfl rfl rfl <| Q.nt <| S.sq <| S.cF rfl (decide_eq_false (by omega)) <| UW.exit <| UQ.pass <| UQ.pass <| UQ.here <| UQ.then <| Q.rg <| Q.mv rfl <| Q.as rfl <| US.freeze' 2 0 (rs := encY (outB x)) rfl rfl (by omega) (by rw [List.drop_zero]; exact List.take_of_length_le (by omega)) <| ?_
    refine Q.nt <| UW.ret <| ?_
    exact retR [_] (fun _ => res_tmp rfl rfl) (.refl _) fun hd => ⟨_, hd, rfl, rfl, rfl⟩
theorem sum_spec (b : List Int) (hb : b.length ≤ 10000000000) (hbb : ByteL b) (H : Hp) (hG : NoIt H) : ACall Tryz.prog 43 [.sl (encY b)] H (IsR H (.sl (encY (shaB b)))) := by
  have hrl := rest_len b
  refine UCall (n := 10) (H0 := H) (objs := []) Tryz.func43 (by kernel_rfl) rfl (by rw [Tryz.ntmps43]; rfl) .nil <| ?_
  refine Q.rg <| Q.as rfl <| Q.nt <| Q.rg <| S.dd <| D.cn rfl rfl (fun _ => new_spec _) <| ?_
  rintro _ _ ⟨p4, rfl, rfl⟩
  refine Q.as rfl <| Q.nt <| Q.rg <| Q.mv rfl <| Q.mv rfl <| S.dd <| D.coe (.cons 0 rfl .nil) rfl rfl (fun hD => write_spec W0 [] b 0 (by decide) hb (by decide) hbb (fun c hc => by cases hc) p4 _ (hG.ext rfl) hD) <| ?_
  rintro _ _ ⟨rfl, rfl⟩
  refine Q.nt <| Q.rg <| Q.mv rfl <| S.dd <| D.coe (.cons 0 rfl .nil) rfl rfl (fun hD => hsum_spec (eatW W0 ([] ++ b)) (restW ([] ++ b)) (0 + b.length) (by omega) hrl (by rw [List.nil_append]; exact hbb.drop _) p4 _ (hG.ext rfl) hD) <| ?_
  (rintro _ _ ⟨rfl, rfl⟩; rw [List.nil_append, Nat.zero_add, eat_app, ← shaB_def])
  refine Q.as rfl <| Q.nt <| UW.ret <| S.rtR (fun _ => res_tmp rfl rfl) <| ?_
  rfl
theorem encY_cut (all : List Int) (x : Nat) : ((encY all).take (x + 64)).drop x = encY (cutB all x) := by
  unfold cutB
  rw [encY_take, encY_drop, List.drop_take]
  congr 2; omega
theorem foldW_step (h : W8) (all : List Int) (k : Nat) : foldW h all (chunksUpto 64 (k + 1)) = takeW (foldW h all (chunksUpto 64 k)) (cutB all (k * 64)) := by rw [chunksUpto_succ, foldW_snoc]
theorem eat_def (h : W8) (all : List Int) : eatW h all = foldW h all (chunksUpto 64 (all.length / 64)) := rfl
theorem tail_div (b : List Int) : (b ++ tailB b.length).length = ((b ++ tailB b.length).length / 64) * 64 := by
  rw [List.length_append, tailB_len]
  unfold zN
  omega
theorem sumR_spec (b : List Int) (hb : b.length ≤ 10000000000) (hbb : ByteL b) (H : Hp) : ACall Tryz.prog 94 [.sl (encY b)] H (IsR H (.sl (encY (shaB b)))) := by
  have hbl := encY_len b
  have hbs := encY_sz b
  have htl := encY_len (tailB b.length)
  have hts := encY_sz (tailB b.length)
  have htl2 := tailB_len b.length
  have hz : zN b.length < 64 := by unfold zN; omega
  have hall : ByteL (b ++ tailB b.length) := hbb.app (tailB_ok _)
  have hdiv := tail_div b
  have hlen : (b ++ tailB b.length).length = b.length + (tailB b.length).length := List.length_append
  have hap : (encY b).take b.length ++ encY (tailB b.length) = encY (b ++ tailB b.length) := by rw [List.take_of_length_le (by omega), encY_app]
  have hel := encY_len (b ++ tailB b.length)
  refine UCall (n := 64) (H0 := H) (objs := []) Tryz.func94 (by kernel_rfl) rfl (by rw [Tryz.ntmps94]; rfl) .nil <| ?_
  refine Q.rg <| Q.as rfl <| Q.nt <| Q.rg <| Q.as rfl <| US.nilOwn 3 5 1 (by decide) rfl fun p3 => Q.nt <| Q.rg <| Q.mv rfl <| Q.mv rfl <| S.dd <| D.ap 0 row22 rfl rfl (by decide) rfl (.sl hbs) (by omega) (rws := encY b) rfl fun p11 => ?_
  rw [Nat.zero_add, hbl]
  refine Q.as rfl <| Q.nt <| Q.rg <| Q.mv rfl <| S.qu (Z.eq (u' := .v (.int .i64 (b.length : Int))) (Z.lns sl22 rfl) (by rw [hbl])) <| ?_
  refine S.qu (Z.cv Tryz.underlying122 rfl (IntWalk.u64_in _ (by omega)) (by rw [Tryz.underlying3]; rfl)) <| ?_
  refine S.qu (Z.call rfl rfl (fun H => tailR_spec b.length (by omega) H)) <| Q.as rfl <| Q.nt <| Q.rg <| Q.mv rfl <| Q.mv rfl <| S.dd <| D.ap 0 row22 rfl rfl (by omega) rfl (.sl hts) (by omega) hap fun p18 => US.freeze' 18 0 (rs := encY (b ++ tailB b.length)) rfl rfl (by omega) (by rw [List.drop_zero]; exact List.take_of_length_le (by omega)) <| ?_
  refine Q.as rfl <| Q.nt <| Q.rg <| S.qu (Z.eq (u' := .sl (encR W0.l)) (Z.bl row133 rfl rfl (lit_ok rfl)) rfl) <| Q.as rfl <| Q.nt <| S.sq <| Q.rg <| Q.as rfl <| Q.nt <| UW.block <| ?_
  rw [shaB_def]
  generalize b ++ tailB b.length = all at hall hdiv hlen hap hel ⊢
  have hals := encY_sz all
  refine S.loop (fun k : Nat => [(6, .v (.int .i64 ((k * 64 : Nat) : Int))), (5, .sl (encR (foldW W0 all (chunksUpto 64 k)).l)), (3, .sl (encY all))]) (fun _ => []) (fun k => k ≤ all.length / 64) (fun k => all.length / 64 - k) 0 (Nat.zero_le _) ⟨rfl, rfl, rfl, trivial⟩ (List.nil_sublist _) <| ?_
  intro k hk
  by_cases hlt : k < all.length / 64
  · have hcl := cutB_len all (k * 64)
    have hco := cutB_ok hall (k * 64)
    refine S.sq <| Q.rg <| Q.mv rfl <| Q.mv rfl <| S.qu (Z.lns sl22 rfl) <| Q.bi rfl rfl rfl <| Q.nt <| S.cT rfl (decide_eq_true (by omega)) <| UW.skip <| UQ.then <| S.sq <| UW.block <| S.rg <| Q.mv rfl <| Q.mv rfl <| Q.mv rfl <| Q.mv rfl <| S.qu (Z.add (r := ((k * 64 + 64 : Nat) : Int)) rfl rfl (IntWalk.i64_in _ (by omega))) <| S.qu (Z.sls sl22 rfl hals (.both rfl rfl) (by omega) (by omega) (encY_cut all (k * 64))) <| S.qu (Z.eq (u' := .sl (encR (foldW W0 all (chunksUpto 64 (k + 1))).l)) (Z.call rfl rfl (fun H => block_spec (foldW W0 all (chunksUpto 64 k)) (cutB all (k * 64)) (by omega) hco H)) (by rw [foldW_step])) <| ?_
    refine Q.as rfl <| US.nil <| UQ.blockN <| UQ.then <| S.rg <| Q.mv rfl <| S.qu (Z.add (r := (((k + 1) * 64 : Nat) : Int)) rfl rfl (by rw [IntWalk.i64_in _ (by omega)]; omega)) <| ?_
    refine Q.as rfl <| US.nil <| ?_
    refine S.back (k + 1) ⟨rfl, rfl, rfl, trivial⟩ (.refl _) (by omega) (by omega)
  · have hkq : k = all.length / 64 := by omega
    subst hkq
    rw [← eat_def]
    generalize eatW W0 all = x
    refine S.sq <| Q.rg <| Q.mv rfl <| Q.mv rfl <| S.qu (Z.lns sl22 rfl) <| Q.bi rfl rfl rfl <| Q.nt <| S.cF rfl (decide_eq_false (by omega)) <| UW.exit <| UQ.pass <| UQ.pass <| UQ.here <| UQ.then <| Q.rg <| Q.as rfl <| US.nilOwn 7 5 1 (by decide) rfl fun p7 => Q.nt <| S.sq <| Q.rg <| Q.as rfl <| Q.nt <| UW.block <| S.loop (fun j : Nat × Nat => [(8, .v (.int .i64 (j.1 : Int))), (7, .own j.2 0 (4 * j.1) 1), (5, .sl (encR x.l))]) (fun j => [(j.2, .row 5 1 (encY (outU x j.1)))]) (fun j => j.1 ≤ 8) (fun j => 8 - j.1) (0, p7) (Nat.zero_le _) ⟨rfl, rfl, rfl, trivial⟩ (.refl _) <| ?_
    rintro ⟨j, r⟩ hj
    dsimp only at hj ⊢
    have hrl := encY_len (outU x j)
    rw [outU_len x j hj] at hrl
    by_cases hlt : j < 8
    · have hk := encR_get x.l j hlt
      have hap := outU_enc x j hlt
      refine S.sq <| Q.rg <| Q.mv rfl <| Q.bi rfl rfl rfl <| Q.nt <| S.cT rfl (decide_eq_true (by omega)) <| UW.skip <| UQ.then <| S.sq <| UW.block <| ?_
      refine' UW.draw' (by kernel_rfl) [0, 0, 0, 6, 14, 30, 62, 0, 0, 384, 896, 1920, 3968, 0, 0, 24576, 57344, 122880, 253952, 0, 0, 1572864, 3670016, 7864320, 16777214, 33554431, 67108863] [some 37, some 38, some 39, some 40, some 41, some 42, some 43, some 44, some 45, some 46, some 47, some 48, some 49, some 50, some 51, some 52, some 53, some 54, some 55, some 56, some 57, some 58, some 59, some 60, some 61, none, none] [some (37, _), some (38, _), some (39, _), some (40, _), some (41, _), some (42, _), some (43, _), some (44, _), some (45, _), some (46, _), some (47, _), some (48, _), some (49, _), some (50, _), some (51, _), some (52, _), some (53, _), some (54, _), some (55, _), some (56, _), some (57, _), some (58, _), some (59, _), some (60, _), some (61, _), none, none] [25, 26] [4, 10, 16, 22] rfl (by decide) (by decide) (QAll.free (by decide) rfl rfl ?q7x0_0 (QAll.free (by decide) rfl rfl ?q7x0_1 (QAll.free (by decide) rfl rfl ?q7x0_2 (QAll.free (by decide) rfl rfl ?q7x0_3 (QAll.held (by decide) rfl rfl ?q7x0_4 (QAll.free (by decide) rfl rfl ?q7x0_5 (QAll.free (by decide) rfl rfl ?q7x0_6 (QAll.free (by decide) rfl rfl ?q7x0_7 (QAll.free (by decide) rfl rfl ?q7x0_8 (QAll.free (by decide) rfl rfl ?q7x0_9 (QAll.held (by decide) rfl rfl ?q7x0_10 (QAll.free (by decide) rfl rfl ?q7x0_11 (QAll.free (by decide) rfl rfl ?q7x0_12 (QAll.free (by decide) rfl rfl ?q7x0_13 (QAll.free (by decide) rfl rfl ?q7x0_14 (QAll.free (by decide) rfl rfl ?q7x0_15 (QAll.held (by decide) rfl rfl ?q7x0_16 (QAll.free (by decide) rfl rfl ?q7x0_17 (QAll.free (by decide) rfl rfl ?q7x0_18 (QAll.free (by decide) rfl rfl ?q7x0_19 (QAll.free (by decide) rfl rfl ?q7x0_20 (QAll.free (by decide) rfl rfl ?q7x0_21 (QAll.held (by decide) rfl rfl ?q7x0_22 (QAll.free (by decide) rfl rfl ?q7x0_23 (QAll.free (by decide) rfl rfl ?q7x0_24 (QAll.skip (QAll.skip QAll.nil))))))))))))))))))))))))))) ?q7x0_k
      case q7x0_0 => (intro _; exact Z.mv rfl)
      case q7x0_1 => (intro _; exact Z.mv rfl)
      case q7x0_2 => (intro _; exact Z.mv rfl)
      case q7x0_3 => (intro _; exact Z.ia sl133 rfl rfl (by omega) hk (by rfl))
      case q7x0_4 => exact Z.lpc ty118 rfl
      case q7x0_5 => (intro _; exact Z.wshr rfl rfl (by omega))
      case q7x0_6 => (intro _; exact Z.cv Tryz.underlying5 rfl rfl (by rw [Tryz.underlying118]; rfl))
      case q7x0_7 => (intro _; exact Z.mv rfl)
      case q7x0_8 => (intro _; exact Z.mv rfl)
      case q7x0_9 => (intro _; exact Z.ia sl133 rfl rfl (by omega) hk (by rfl))
      case q7x0_10 => exact Z.lpc ty118 rfl
      case q7x0_11 => (intro _; exact Z.wshr rfl rfl (by omega))
      case q7x0_12 => (intro _; exact Z.cv Tryz.underlying5 rfl rfl (by rw [Tryz.underlying118]; rfl))
      case q7x0_13 => (intro _; exact Z.mv rfl)
      case q7x0_14 => (intro _; exact Z.mv rfl)
      case q7x0_15 => (intro _; exact Z.ia sl133 rfl rfl (by omega) hk (by rfl))
      case q7x0_16 => exact Z.lpc ty118 rfl
      case q7x0_17 => (intro _; exact Z.wshr rfl rfl (by omega))
      case q7x0_18 => (intro _; exact Z.cv Tryz.underlying5 rfl rfl (by rw [Tryz.underlying118]; rfl))
      case q7x0_19 => (intro _; exact Z.mv rfl)
      case q7x0_20 => (intro _; exact Z.mv rfl)
      case q7x0_21 => (intro _; exact Z.ia sl133 rfl rfl (by omega) hk (by rfl))
      case q7x0_22 => exact Z.lpc ty118 rfl
      case q7x0_23 => (intro _; exact Z.cv Tryz.underlying5 rfl rfl (by rw [Tryz.underlying118]; rfl))
      case q7x0_24 => (intro _; exact Z.bl row22 rfl rfl (lit_ok rfl))
      refine CH.cons rfl rfl (by decide) <| D.ap 0 row22 rfl rfl (by omega) rfl (.sl (lit_sz rfl)) (by first | omega | (simp; omega)) hap fun p62 => ?_
      refine CH.cons rfl rfl (by decide) <| D.qu (Z.as rfl) <| CH.nil <| ?_
      simp only [app, finL]
      refine UQ.blockN <| UQ.then <| S.rg <| Q.mv rfl <| S.qu (Z.add (r := ((j + 1 : Nat) : Int)) rfl rfl (IntWalk.i64_in _ (by omega))) <| Q.as rfl <| US.nil <| ?_
      refine S.back (j + 1, p62) ⟨rfl, rfl, rfl, trivial⟩ (.refl _) (by omega) (by omega)
    · have hj8 : j = 8 := by omega
      subst hj8
      refine S.sq <| Q.rg <| Q.mv rfl <| Q.bi rfl rfl rfl <| Q.nt <| S.cF rfl (decide_eq_false (by omega)) <| UW.exit <| UQ.pass <| UQ.pass <| UQ.here <| UQ.then <| Q.rg <| Q.mv rfl <| Q.as rfl <| US.freeze' 2 0 (rs := encY (outB x)) rfl rfl (by omega) (by rw [List.drop_zero]; exact List.take_of_length_le (by omega)) <| ?_
      refine Q.nt <| UW.ret <| S.rtR (fun _ => res_tmp rfl rfl) <| ?_
      rfl
end Go.Proofs.YtgmfgmbgmjbdhaaGreatDoor
end
