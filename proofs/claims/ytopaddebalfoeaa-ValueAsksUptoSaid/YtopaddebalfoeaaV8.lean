/- What the package itself can do. -/
import Derived.Test.YtopaddebalfoeaaV7
namespace Go.Proofs.Ytopaddebalfoeaa
open Go Go.RowKit Go.Eng
set_option linter.unusedSimpArgs false
set_option linter.unusedVariables false
def numV (n : Int) : V := .mk 2 n ⟨#[]⟩ [] []
theorem num_spec (n : Int) (H : Hp) : ACall Try.prog 13 [.v (.int .i64 n)] H (IsR H (.agg (encV (numV n)))) := by
  refine UCall (n := 5) (H0 := H) (objs := []) Try.func13 (by kernel_rfl) rfl (by rw [Try.ntmps13]; rfl) .nil <| ?_
  refine Q.rg <| US.allocN rfl (by decide) rfl rfl z27 rfl rfl rfl rfl fun p2 => Q.nt <| Q.rg <| Q.mv rfl <| US.buildN [0, 1] rfl (by decide) rfl rfl bt27 rfl rfl rfl rfl rfl rfl rfl rfl <| US.st_whole rfl rfl rfl ty27 rfl (k := 0) rfl (by rfl) rfl rfl (by rfl) (by rfl) rfl <| ?_
  refine Q.nt <| UW.ret <| ?_
  exact retR [] (fun hd => res_cell (k := 0) hd rfl rfl rfl st27 sz27) (by simp) fun hd => ⟨rfl, rfl⟩
def knownV : V := .mk 5 0 ⟨#[]⟩ [⟨#[97]⟩, ⟨#[98]⟩] [numV 1, numV 2]
theorem fits_num (n : Int) : Fits (numV n) := .mk _ _ _ _ _ (by decide) (by decide) (by simp)
theorem fits_known : Fits knownV := .mk _ _ _ _ _ (by decide) (by decide) (by intro x hx; simp at hx; rcases hx with rfl | rfl <;> exact fits_num _)
theorem known_get : getV knownV ⟨#[98]⟩ = (numV 2, true) := by kernel_rfl
theorem known_right : rightV knownV = true := by kernel_rfl
def nineV : V := .mk 9 0 ⟨#[]⟩ [] []
theorem nine_right : rightV nineV = false := by kernel_rfl
theorem fits_nine : Fits nineV := .mk _ _ _ _ _ (by decide) (by decide) (by simp)
theorem known_deep : deepV knownV = 1 := by kernel_rfl
theorem known_without : withoutV knownV ⟨#[97]⟩ = .mk 5 0 ⟨#[]⟩ [⟨#[98]⟩] [numV 2] := by kernel_rfl
theorem known_c1 (H : Hp) : ACall Try.prog 23 [.agg (encV knownV), .v (.string ⟨#[98]⟩)] H (IsR H (.tup [.agg (encV (numV 2)), .v (.bool true)])) := by
  have h := get_spec knownV fits_known ⟨#[98]⟩ H; rw [known_get] at h; exact h
theorem known_c2 (H : Hp) : ACall Try.prog 12 [.agg (encV knownV)] H (IsR H (.v (.bool true))) := by
  have h := right_spec knownV fits_known H; rw [known_right] at h; exact h
theorem known_c3 (H : Hp) : ACall Try.prog 12 [.agg (encV nineV)] H (IsR H (.v (.bool false))) := by
  have h := right_spec nineV fits_nine H; rw [nine_right] at h; exact h
theorem known_c4 (H : Hp) : ACall Try.prog 20 [.agg (encV knownV)] H (IsR H (.v (.int .i64 1))) := by
  have h := deep_spec knownV fits_known (by rw [known_deep]; decide) H; rw [known_deep] at h; exact h
theorem known_c5 (H : Hp) : ACall Try.prog 24 [.agg (encV knownV), .v (.string ⟨#[97]⟩)] H (IsR H (.agg (encV (.mk 5 0 ⟨#[]⟩ [⟨#[98]⟩] [numV 2])))) := by
  have h := without_spec knownV fits_known ⟨#[97]⟩ H; rw [known_without] at h; exact h
theorem known_spec (H : Hp) : ACall Try.prog 11 [] H (IsR H (.v (.bool true))) := by
  refine UCall (n := 41) (H0 := H) (objs := []) Try.func11 (by kernel_rfl) rfl (by rw [Try.ntmps11]; rfl) .nil <| ?_
  refine Q.rg <| Q.as rfl <| Q.nt <| Q.rg <| US.lit_sl rfl (by decide) rfl rfl row24 (by decide) rfl rfl rfl (by exact lit_ok rfl) <| ?_
  refine US.buildN [0, 1] rfl (by decide) rfl rfl bt27 rfl rfl rfl rfl rfl rfl rfl rfl <| US.buildN [0, 1] rfl (by decide) rfl rfl bt27 rfl rfl rfl rfl rfl rfl rfl rfl <| US.lit_sl rfl (by decide) rfl rfl row25 (by decide) rfl rfl rfl (by exact lit_ok rfl) <| ?_
  refine US.buildN [0, 3, 4] rfl (by decide) rfl rfl bt27 rfl rfl rfl rfl rfl rfl rfl rfl <| US.allocN rfl (by decide) rfl rfl z27 rfl rfl rfl rfl fun p1 => US.st_whole rfl rfl rfl ty27 rfl (k := 0) rfl (by rfl) rfl rfl (by rfl) (by rfl) rfl <| ?_
  refine Q.nt <| Q.rg <| US.ld_whole rfl (by decide) rfl rfl ty27 rfl (k := 0) rfl (by rfl) <| ?_
  refine US.call_pure rfl (by decide) rfl rfl rfl rfl (fun _ => known_c1 _) <| Q.mv rfl <| US.extract rfl (by decide) rfl rfl rfl rfl <| US.extract rfl (by decide) rfl rfl rfl rfl <| US.allocN rfl (by decide) rfl rfl z27 rfl rfl rfl rfl fun p2 => US.st_whole rfl rfl rfl ty27 rfl (k := 0) rfl (by rfl) rfl rfl (by rfl) (by rfl) rfl <| ?_
  refine Q.as rfl <| Q.nt <| Q.rg <| Q.mv rfl <| Q.mv rfl <| ?_
  (refine US.on rfl rfl (by decide) rfl ?_; refine US.fieldAddr rfl (by decide) rfl rfl rfl f27_1 ?_)
  (refine US.on rfl rfl (by decide) rfl ?_; refine US.ld_cell rfl (by decide) rfl rfl ty2 rfl (k := 0) rfl rfl ?_)
  (refine US.on rfl rfl (by decide) rfl ?_; refine US.bin_int rfl (by decide) rfl rfl rfl rfl rfl ?_)
  refine Q.pk rfl rfl <| Q.mv rfl <| ?_
  (refine US.on rfl rfl (by decide) rfl ?_; refine US.ld_whole rfl (by decide) rfl rfl ty27 rfl (k := 1) rfl (by rfl) ?_)
  (refine US.on rfl rfl (by decide) rfl ?_; refine US.call_pure rfl (by decide) rfl rfl rfl rfl (fun _ => known_c2 _) ?_)
  refine Q.pk rfl rfl <| Q.mv rfl <| ?_
  (refine US.on rfl rfl (by decide) rfl ?_; refine US.buildN [0] rfl (by decide) rfl rfl bt27 rfl rfl rfl rfl rfl rfl rfl rfl ?_)
  (refine US.on rfl rfl (by decide) rfl ?_; refine US.call_pure rfl (by decide) rfl rfl rfl rfl (fun _ => known_c3 _) ?_)
  (refine US.on rfl rfl (by decide) rfl ?_; refine US.not rfl (by decide) rfl rfl rfl ?_)
  refine Q.pk rfl rfl <| Q.mv rfl <| ?_
  (refine US.on rfl rfl (by decide) rfl ?_; refine US.ld_whole rfl (by decide) rfl rfl ty27 rfl (k := 1) rfl (by rfl) ?_)
  (refine US.on rfl rfl (by decide) rfl ?_; refine US.call_pure rfl (by decide) rfl rfl rfl rfl (fun _ => known_c4 _) ?_)
  (refine US.on rfl rfl (by decide) rfl ?_; refine US.bin_int rfl (by decide) rfl rfl rfl rfl rfl ?_)
  refine Q.pk rfl rfl <| Q.mv rfl <| ?_
  (refine US.on rfl rfl (by decide) rfl ?_; refine US.ld_whole rfl (by decide) rfl rfl ty27 rfl (k := 1) rfl (by rfl) ?_)
  (refine US.on rfl rfl (by decide) rfl ?_; refine US.call_pure rfl (by decide) rfl rfl rfl rfl (fun _ => known_c5 _) ?_)
  (refine US.on rfl rfl (by decide) rfl ?_; refine US.field_cell rfl (by decide) rfl rfl rfl ft27_3 rfl ?_)
  (refine US.on rfl rfl (by decide) rfl ?_; refine US.len_sl rfl (by decide) rfl rfl sl24 rfl ?_)
  (refine US.on rfl rfl (by decide) rfl ?_; refine US.bin_int rfl (by decide) rfl rfl rfl rfl rfl ?_)
  refine Q.pk rfl rfl <| Q.as rfl <| Q.nt <| UW.ret <| ?_
  exact retR [] (fun _ => res_tmp rfl rfl) (by simp) fun hd => ⟨rfl, rfl⟩
end Go.Proofs.Ytopaddebalfoeaa
