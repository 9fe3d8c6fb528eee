/- Runes, order, numbers, keys. -/
import Derived.Test.YtopaddebalfoeaaV4
namespace Go.Proofs.Ytopaddebalfoeaa
open Go Go.RowKit Go.Eng
set_option linter.unusedSimpArgs false
set_option linter.unusedVariables false
/-- Does s begin with p? -/
def pre (s p : ByteArray) : Bool := decide (p.size ≤ s.size) && (s.extract 0 p.size).toList == p.toList
theorem lite_spec (s p : ByteArray) (H : Hp) :
    ACall Try.prog 77 [.v (.string s), .v (.string p)] H (IsR H (.v (.bool (pre s p)))) := by
  by_cases hle : p.size ≤ s.size
  · have hge : ((p.size : Nat) : Int) ≤ s.size := by omega
    refine UCall (n := 18) (H0 := H) (objs := []) Try.func77 (by kernel_rfl) rfl (by rw [Try.ntmps77]; rfl) .nil <| ?_
    refine Q.rg <| Q.as rfl <| Q.nt <| Q.rg <| Q.mv rfl <| US.len_str rfl (by decide) rfl rfl Try.underlying9 rfl <| Q.mv rfl <| US.len_str rfl (by decide) rfl rfl Try.underlying9 rfl <| US.bin_int rfl (by decide) rfl rfl rfl rfl (r := .bool true) (by (simp [iop, sop, hge]; done)) <| ?_
    refine Q.mv rfl <| ?_
    (refine US.on rfl rfl (by decide) rfl ?_; refine US.move rfl (by decide) rfl rfl rfl ?_)
    (refine US.on rfl rfl (by decide) rfl ?_; refine US.move rfl (by decide) rfl rfl rfl ?_)
    (refine US.on rfl rfl (by decide) rfl ?_; refine US.len_str rfl (by decide) rfl rfl Try.underlying9 rfl ?_)
    (refine US.on rfl rfl (by decide) rfl ?_; refine US.slice_str rfl (by decide) rfl rfl Try.underlying9 rfl (.hi rfl) (Nat.zero_le _) hle ?_)
    (refine US.on rfl rfl (by decide) rfl ?_; refine US.move rfl (by decide) rfl rfl rfl ?_)
    (refine US.on rfl rfl (by decide) rfl ?_; refine US.bin_str rfl (by decide) rfl rfl rfl rfl rfl ?_)
    refine Q.pk rfl rfl <| Q.as rfl <| Q.nt <| UW.ret <| ?_
    refine retR [] (fun _ => res_tmp rfl rfl) (by simp) fun hd => ⟨?_, rfl⟩
    unfold pre
    rw [decide_eq_true hle]; simp
  · have hge : ¬ ((p.size : Nat) : Int) ≤ s.size := by omega
    refine UCall (n := 18) (H0 := H) (objs := []) Try.func77 (by kernel_rfl) rfl (by rw [Try.ntmps77]; rfl) .nil <| ?_
    refine Q.rg <| Q.as rfl <| Q.nt <| Q.rg <| Q.mv rfl <| US.len_str rfl (by decide) rfl rfl Try.underlying9 rfl <| Q.mv rfl <| US.len_str rfl (by decide) rfl rfl Try.underlying9 rfl <| US.bin_int rfl (by decide) rfl rfl rfl rfl (r := .bool false) (by (simp [iop, sop, hge]; done)) <| ?_
    refine Q.mv rfl <| Q.of <| Q.of <| Q.of <| Q.of <| Q.of <| Q.of <| Q.pk rfl rfl <| Q.as rfl <| Q.nt <| UW.ret <| ?_
    refine retR [] (fun _ => res_tmp rfl rfl) (by simp) fun hd => ⟨?_, rfl⟩
    unfold pre
    rw [decide_eq_false hle]; rfl
theorem hasPrefix_spec (s p : ByteArray) (H : Hp) :
    ACall Try.prog 64 [.v (.string s), .v (.string p)] H (IsR H (.v (.bool (pre s p)))) := by
  refine UCall (n := 8) (H0 := H) (objs := []) Try.func64 (by kernel_rfl) rfl (by rw [Try.ntmps64]; rfl) .nil <| ?_
  refine Q.rg <| Q.as rfl <| Q.nt <| Q.rg <| Q.mv rfl <| Q.mv rfl <| US.call_pure rfl (by decide) rfl rfl rfl rfl (fun _ => lite_spec s p _) <| Q.as rfl <| Q.nt <| UW.ret <| ?_
  exact retR [] (fun _ => res_tmp rfl rfl) (by simp) fun hd => ⟨rfl, rfl⟩
def cmpB (a b : ByteArray) : Int := Lib.compareBytes a.data.toList b.data.toList
theorem compareString_spec (s p : ByteArray) (H : Hp) :
    ACall Try.prog 78 [.v (.string s), .v (.string p)] H (IsR H (.v (.int .i64 (cmpB s p)))) := by
  refine UCall (n := 8) (H0 := H) (objs := []) Try.func78 (by kernel_rfl) rfl (by rw [Try.ntmps78]; rfl) .nil <| ?_
  refine Q.rg <| Q.as rfl <| Q.nt <| Q.rg <| Q.mv rfl <| Q.mv rfl <| US.compare rfl (by decide) rfl rfl rfl Try.func81 (by kernel_rfl) (by kernel_rfl) (by kernel_rfl) (by kernel_rfl) rfl rfl <| Q.as rfl <| Q.nt <| UW.ret <| ?_
  exact retR [] (fun _ => res_tmp rfl rfl) (by simp) fun hd => ⟨rfl, rfl⟩
theorem compare_spec (s p : ByteArray) (H : Hp) :
    ACall Try.prog 69 [.v (.string s), .v (.string p)] H (IsR H (.v (.int .i64 (cmpB s p)))) := by
  refine UCall (n := 8) (H0 := H) (objs := []) Try.func69 (by kernel_rfl) rfl (by rw [Try.ntmps69]; rfl) .nil <| ?_
  refine Q.rg <| Q.as rfl <| Q.nt <| Q.rg <| Q.mv rfl <| Q.mv rfl <| US.call_pure rfl (by decide) rfl rfl rfl rfl (fun _ => compareString_spec s p _) <| Q.as rfl <| Q.nt <| UW.ret <| ?_
  exact retR [] (fun _ => res_tmp rfl rfl) (by simp) fun hd => ⟨rfl, rfl⟩
theorem less_spec (s p : ByteArray) (H : Hp) :
    ACall Try.prog 50 [.v (.string s), .v (.string p)] H (IsR H (.v (.bool (decide (cmpB s p < 0))))) := by
  refine UCall (n := 9) (H0 := H) (objs := []) Try.func50 (by kernel_rfl) rfl (by rw [Try.ntmps50]; rfl) .nil <| ?_
  refine Q.rg <| Q.as rfl <| Q.nt <| Q.rg <| Q.mv rfl <| Q.mv rfl <| US.call_pure rfl (by decide) rfl rfl rfl rfl (fun _ => compare_spec s p _) <| Q.bi rfl rfl rfl <| Q.as rfl <| Q.nt <| UW.ret <| ?_
  exact retR [] (fun _ => res_tmp rfl rfl) (by simp) fun hd => ⟨rfl, rfl⟩
/-! runes -/
def errB : ByteArray := ⟨#[0xEF, 0xBF, 0xBD]⟩
def badAt (s : ByteArray) (pos : Nat) : Bool := (Utf8.decode s pos).1 == 65533 && !(pre (s.extract pos s.size) errB)
def chkF (s : ByteArray) : Nat → Nat → Int
  | 0, _ => -1
  | f + 1, pos => if pos < s.size then (if badAt s pos then (pos : Int) else chkF s f (pos + (Utf8.decode s pos).2)) else -1
/-- The first byte that begins no rune, or -1. -/
def chk (s : ByteArray) : Int := chkF s (s.size + 1) 0
theorem decode_step (s : ByteArray) (pos : Nat) (h : pos < s.size) : 1 ≤ (Utf8.decode s pos).2 := by
  by_cases ha : (s[pos]'h).toNat < 128
  · rw [decode_ascii s pos h ha]; exact Nat.le_refl _
  · exact (decode_high s pos h (by omega)).2
theorem check_spec (s : ByteArray) (H : Hp) :
    ACall Try.prog 36 [.v (.string s)] H (IsR H (.v (.int .i64 (chk s)))) := by
  refine UCall (n := 21) (H0 := H) (objs := []) Try.func36 (by kernel_rfl) rfl (by rw [Try.ntmps36]; rfl) .nil <| ?_
  refine Q.rg <| Q.as rfl <| Q.nt <| UW.seq <| Q.rg <| Q.mv rfl <| US.range_str rfl (by decide) rfl rfl Try.underlying9 rfl fun p6 => Q.nt <| UW.block <| UW.loop (fun p : Nat × Nat => [(6, .ptr p6 0), (0, .v (.string s))]) (fun p => [(p6, .iter s p.1)]) (fun p => s.size - p.1 < p.2 ∧ chkF s p.2 p.1 = chk s) (fun p => p.2) (0, s.size + 1) ⟨by simp, rfl⟩ ⟨rfl, rfl, trivial⟩ (.refl _) <| ?_
  rintro ⟨pos, f⟩ ⟨hf, hc⟩
  simp only at hf hc
  obtain ⟨f, rfl⟩ : ∃ f', f = f' + 1 := ⟨f - 1, by omega⟩
  refine Q.rg <| ?_
  by_cases hlt : pos < s.size
  · refine US.next_str rfl (by decide) rfl rfl rfl (k := 0) rfl hlt rfl <| US.extract rfl (by decide) rfl rfl rfl rfl <| Q.nt <| UW.seq <| ?_
    refine UW.cond rfl (fun _ => ?_) (fun h => absurd h (by simp))
    refine UW.skip <| UQ.then <| UW.block <| Q.rg <| US.extract rfl (by decide) rfl rfl rfl rfl <| US.extract rfl (by decide) rfl rfl rfl rfl <| Q.as rfl <| Q.as rfl <| Q.nt <| Q.rg <| ?_
    have hst := decode_step s pos hlt
    by_cases h33 : (((Utf8.decode s pos).1 : Nat) : Int) = 65533
    · have h33' : (Utf8.decode s pos).1 = 65533 := by omega
      refine Q.mv rfl <| US.bin_int rfl (by decide) rfl rfl rfl rfl (r := .bool true) (by (simp [iop, sop, h33]; done)) <| ?_
      refine Q.mv rfl <| ?_
      (refine US.on rfl rfl (by decide) rfl ?_; refine US.move rfl (by decide) rfl rfl rfl ?_)
      (refine US.on rfl rfl (by decide) rfl ?_; refine US.move rfl (by decide) rfl rfl rfl ?_)
      (refine US.on rfl rfl (by decide) rfl ?_; refine US.slice_str rfl (by decide) rfl rfl Try.underlying9 rfl (.lo rfl) (by omega) (by omega) ?_)
      (refine US.on rfl rfl (by decide) rfl ?_; refine US.call_pure rfl (by decide) rfl rfl rfl rfl (fun _ => hasPrefix_spec _ errB _) ?_)
      (refine US.on rfl rfl (by decide) rfl ?_; refine US.not rfl (by decide) rfl rfl rfl ?_)
      refine Q.pk rfl rfl <| Q.nt <| ?_
      refine UW.cond rfl (fun hb => ?_) (fun hb => ?_)
      · refine Q.rg <| Q.mv rfl <| Q.as rfl <| Q.nt <| UW.ret <| UQ.blockR <| UQ.passR <| UQ.blockR <| UQ.passR <| ?_
        refine retR [] (fun _ => res_tmp rfl rfl) (by simp) fun hd => ⟨?_, rfl⟩
        rw [← hc]
        unfold chkF
        rw [if_pos hlt, if_pos (by unfold badAt; rw [h33']; exact hb)]
      · refine UW.keep [(6, .ptr p6 0), (0, .v (.string s))] [(p6, .iter s (pos + (Utf8.decode s pos).2))] ⟨rfl, rfl, trivial⟩ (.refl _) <| UW.skip <| UQ.blockN <| ?_
        exact fun hd => ⟨(pos + (Utf8.decode s pos).2, f), ⟨by simp only; omega, by
          simp only
          rw [← hc]
          conv => rhs; unfold chkF
          rw [if_pos hlt, if_neg (by unfold badAt; rw [h33']; simpa using hb)]⟩, by simp, hd, rfl, rfl⟩
    · have h33' : ((Utf8.decode s pos).1 == 65533) = false := by simp; omega
      refine Q.mv rfl <| US.bin_int rfl (by decide) rfl rfl rfl rfl (r := .bool false) (by (simp [iop, sop, h33]; done)) <| ?_
      refine Q.mv rfl <| Q.of <| Q.of <| Q.of <| Q.of <| Q.of <| Q.pk rfl rfl <| Q.nt <| UW.cond rfl (fun h => absurd h (by simp)) fun hb => ?_
      refine UW.keep [(6, .ptr p6 0), (0, .v (.string s))] [(p6, .iter s (pos + (Utf8.decode s pos).2))] ⟨rfl, rfl, trivial⟩ (.refl _) <| UW.skip <| UQ.blockN <| ?_
      exact fun hd => ⟨(pos + (Utf8.decode s pos).2, f), ⟨by simp only; omega, by
        simp only
        rw [← hc]
        conv => rhs; unfold chkF
        rw [if_pos hlt, if_neg (by unfold badAt; rw [h33']; simp)]⟩, by simp, hd, rfl, rfl⟩
  · refine US.next_over rfl (by decide) rfl rfl rfl (k := 0) rfl hlt <| US.extract rfl (by decide) rfl rfl rfl rfl <| Q.nt <| UW.seq <| UW.cond rfl (fun h => absurd h (by simp)) fun _ => ?_
    refine UW.exit <| UQ.pass <| UQ.pass <| UQ.here <| UQ.then <| Q.rg <| Q.as rfl <| Q.nt <| UW.ret <| ?_
    refine retR [] (fun _ => res_tmp rfl rfl) (by simp) fun hd => ⟨?_, rfl⟩
    rw [← hc]
    unfold chkF
    rw [if_neg hlt]
end Go.Proofs.Ytopaddebalfoeaa
