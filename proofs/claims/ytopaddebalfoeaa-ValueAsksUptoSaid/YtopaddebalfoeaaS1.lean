/- Samples: texts out of choices. -/
import Derived.Test.YtopaddebalfoeaaR6
namespace Go.Proofs.Ytopaddebalfoeaa
open Go Go.RowKit Go.Eng
set_option linter.unusedSimpArgs false
set_option linter.unusedVariables false
set_option maxRecDepth 100000
/-- Bytes, as whole numbers. -/
def encB (i : Int) : List AV := [.v (.int .u8 i)]
def u8s (l : List Int) : AV := .sl (l.map encB)
theorem u8s_sz (l : List Int) : ∀ cs ∈ l.map encB, cs.length = 1 := by intro cs h; obtain ⟨x, _, rfl⟩ := List.mem_map.1 h; rfl
theorem u8s_get (l : List Int) (k : Nat) (h : k < l.length) : (l.map encB)[k]? = some (encB l[k]) := by rw [List.getElem?_map, List.getElem?_eq_getElem h]; rfl
def Bys (l : List Int) : Prop := ∀ b ∈ l, 0 ≤ b ∧ b < 256
def textL : List ByteArray := [⟨#[97]⟩, ⟨#[98]⟩, ⟨#[34]⟩, ⟨#[92]⟩, ⟨#[10]⟩, ⟨#[1]⟩, ⟨#[195, 169]⟩, ⟨#[226, 130, 172]⟩, ⟨#[240, 159, 152, 128]⟩, ⟨#[255]⟩, ⟨#[237, 160, 128]⟩, ⟨#[12]⟩, ⟨#[127]⟩, ⟨#[239, 191, 189]⟩, ⟨#[8]⟩, ⟨#[9]⟩]
def textN (c : List Int) : Nat → ByteArray
  | 0 => ⟨#[]⟩
  | k + 1 => textN c k ++ textL.getD ((c.getD k 0).tmod 16).toNat ⟨#[]⟩
theorem textL_le : ∀ i : Nat, (textL.getD i ⟨#[]⟩).size ≤ 4
  | 0 | 1 | 2 | 3 | 4 | 5 | 6 | 7 | 8 | 9 | 10 | 11 | 12 | 13 | 14 | 15 => by decide
  | i + 16 => by simp [textL, List.getD]; decide
theorem textN_size (c : List Int) : ∀ k, (textN c k).size ≤ 4 * k
  | 0 => Nat.zero_le _
  | k + 1 => by
    have h1 := textN_size c k
    have h2 := textL_le ((c.getD k 0).tmod 16).toNat
    show (textN c k ++ textL.getD ((c.getD k 0).tmod 16).toNat ⟨#[]⟩).size ≤ _
    rw [ByteArray.size_append]; omega
def textOf (c : List Int) : ByteArray := textN c (min c.length 40)
theorem textOf_size (c : List Int) : (textOf c).size ≤ 160 := by have := textN_size c (min c.length 40); unfold textOf; omega
theorem text_spec (c : List Int) (hc : Bys c) (H : Hp) : ACall Try.prog 67 [u8s c] H (IsR H (.v (.string (textOf c)))) := by
  have hml : (c.map encB).length = c.length := List.length_map ..
  refine UCall (n := 31) (H0 := H) (objs := []) Try.func67 (by kernel_rfl) rfl (by rw [Try.ntmps67]; rfl) .nil <| ?_
  refine Q.rg <| Q.as rfl <| Q.nt <| Q.rg <| S.qu (Z.bl row24 rfl rfl (lit_ok rfl)) <| Q.as rfl <| Q.nt <| Q.rg <| Q.as rfl <| Q.nt <| S.sq <| Q.rg <| Q.as rfl <| Q.nt <| UW.block <| S.loop (fun j : Nat => [(5, .v (.int .i64 (j : Int))), (4, .v (.string (textN c j))), (3, strs textL), (0, u8s c)]) (fun _ => []) (fun j => j ≤ c.length ∧ j ≤ 40) (fun j => 40 - j) 0 ⟨Nat.zero_le _, Nat.zero_le _⟩ ⟨rfl, rfl, rfl, rfl, trivial⟩ (.refl _) <| ?_
  rintro j ⟨hj, hj40⟩
  by_cases hlt : j < c.length
  · by_cases hl4 : j < 40
    · have hgl := u8s_get c j hlt
      have hb := hc _ (List.getElem_mem hlt)
      have hm0 : 0 ≤ (c[j]).tmod 16 := Int.tmod_nonneg _ hb.1
      have hm1 : (c[j]).tmod 16 < 16 := Int.tmod_lt_of_pos _ (by decide)
      have hg2 := strs_get textL ((c[j]).tmod 16).toNat (by show _ < 16; omega)
      have hs1 := textN_size c j
      have hs2 := textL_le ((c[j]).tmod 16).toNat
      have e1 : textL.getD ((c[j]).tmod 16).toNat ⟨#[]⟩ = textL[((c[j]).tmod 16).toNat]'(by show _ < 16; omega) := getD_at _
      have e2 : c.getD j 0 = c[j] := getD_at hlt
      rw [e1] at hs2
      focus
        refine S.sq <| Q.rg <| Q.mv rfl <| Q.mv rfl <| S.qu (Z.lns sl35 rfl) <| Q.bi rfl rfl rfl <| Q.mv rfl <| ?_
        refine S.tD 11 (fun hc11 => ?_) (fun hc11 => ?_)
        rotate_left
        omega
        refine Q.on (Z.mv rfl) <| Q.on (Z.bi rfl rfl rfl) <| Q.pk rfl rfl <| Q.nt <| S.cT rfl (decide_eq_true (by omega)) <| UW.skip <| UQ.then <| S.sq <| UW.block <| S.rg <| Q.mv rfl <| Q.mv rfl <| Q.mv rfl <| Q.mv rfl <| S.qu (Z.ia sl35 rfl rfl (by omega) (by assumption) (by rfl)) <| ?_
        refine S.qu (Z.lpc ty5 rfl) <| S.qu (Z.cv Try.underlying3 rfl (IntWalk.i64_in _ (by omega)) (by rw [Try.underlying5]; rfl)) <| ?_
        refine Q.mv rfl <| S.qu (Z.lns sl24 rfl) <| S.qu (Z.eq (u' := .v (.int .i64 ((c[j]).tmod 16))) (Z.bi rfl rfl rfl) rfl) <| S.qu (Z.ia sl24 rfl rfl (by omega) (by assumption) (by rfl)) <| ?_
        refine S.qu (Z.lpc ty9 rfl) <| S.qu (Z.eq (u' := .v (.string (textN c (j + 1)))) (Z.cat rfl rfl (by omega)) (by rw [← e1, ← e2]; rfl)) <| ?_
        refine Q.as rfl <| US.nil <| UQ.blockN <| UQ.then <| S.rg <| Q.mv rfl <| S.qu (Z.add (r := ((j + 1 : Nat) : Int)) rfl rfl (IntWalk.i64_in _ (by omega))) <| Q.as rfl <| US.nil <| ?_
        refine S.back _ ⟨rfl, rfl, rfl, rfl, trivial⟩ (.refl _) (by omega) (by omega)
    · focus
        refine S.sq <| Q.rg <| Q.mv rfl <| Q.mv rfl <| S.qu (Z.lns sl35 rfl) <| Q.bi rfl rfl rfl <| Q.mv rfl <| ?_
        refine S.tD 11 (fun hc11 => ?_) (fun hc11 => ?_)
        rotate_left
        omega
        refine Q.on (Z.mv rfl) <| Q.on (Z.bi rfl rfl rfl) <| Q.pk rfl rfl <| Q.nt <| S.cF rfl (decide_eq_false (by omega)) <| UW.exit <| UQ.pass <| UQ.pass <| UQ.here <| UQ.then <| Q.rg <| Q.mv rfl <| Q.as rfl <| Q.nt <| UW.ret <| S.rtR (fun _ => res_tmp rfl rfl) <| ?_
        focus (rw [show textOf c = textN c j from by unfold textOf; congr 1; omega]; done)
  · refine S.sq <| Q.rg <| Q.mv rfl <| Q.mv rfl <| S.qu (Z.lns sl35 rfl) <| Q.bi rfl rfl rfl <| Q.mv rfl <| ?_
    refine S.tD 11 (fun hc11 => ?_) (fun hc11 => ?_)
    omega
    refine Q.of <| Q.of <| Q.pk rfl rfl <| Q.nt <| S.cF rfl rfl <| UW.exit <| UQ.pass <| UQ.pass <| UQ.here <| UQ.then <| Q.rg <| Q.mv rfl <| Q.as rfl <| Q.nt <| UW.ret <| S.rtR (fun _ => res_tmp rfl rfl) <| ?_
    focus (rw [show textOf c = textN c j from by unfold textOf; congr 1; omega]; done)
end Go.Proofs.Ytopaddebalfoeaa
