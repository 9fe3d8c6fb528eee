/- The other reading of runes: how many bytes follow. -/
import Derived.Test.YtopaddebalfoeaaVa
import Derived.Test.YtopaddebalfoeaaEc
namespace Go.Proofs.Ytopaddebalfoeaa
open Go Go.RowKit Go.Eng
set_option linter.unusedSimpArgs false
set_option linter.unusedVariables false
set_option maxRecDepth 100000
def moreN (c : Int) : Int := if c < 128 then 0 else if 194 ≤ c ∧ c ≤ 223 then 1 else if 224 ≤ c ∧ c ≤ 239 then 2 else if 240 ≤ c ∧ c ≤ 244 then 3 else -1
theorem more_spec (c : Int) (H : Hp) : ACall Try.prog 66 [.v (.int .u8 c)] H (IsR H (.v (.int .i64 (moreN c)))) := by
  refine UCall (n := 27) (H0 := H) (objs := []) Try.func66 (by kernel_rfl) rfl (by rw [Try.ntmps66]; rfl) .nil <| ?_
  focus
    refine Q.rg <| Q.as rfl <| Q.nt <| S.sq <| UW.block <| Q.rg <| Q.mv rfl <| Q.bi rfl rfl rfl <| Q.as rfl <| Q.nt <| ?_
    refine S.cD rfl (fun hc3 => ?_) (fun hc3 => ?_)
    refine Q.rg <| Q.as rfl <| Q.nt <| UW.ret <| UQ.blockR <| UQ.passR <| S.rtR (fun _ => res_tmp rfl rfl) <| ?_
    focus ((congr 2; unfold moreN; (repeat' split) <;> rfl); done)
    refine Q.rg <| Q.mv rfl <| Q.bi rfl rfl rfl <| Q.mv rfl <| ?_
    refine S.tD 9 (fun hc9 => ?_) (fun hc9 => ?_)
    refine Q.on (Z.mv rfl) <| Q.on (Z.bi rfl rfl rfl) <| Q.pk rfl rfl <| Q.as rfl <| Q.nt <| ?_
    refine S.cD rfl (fun hc6 => ?_) (fun hc6 => ?_)
    refine Q.rg <| Q.as rfl <| Q.nt <| UW.ret <| UQ.blockR <| UQ.passR <| S.rtR (fun _ => res_tmp rfl rfl) <| ?_
    focus ((congr 2; unfold moreN; (repeat' split) <;> first | rfl | omega); done)
    refine Q.rg <| Q.mv rfl <| Q.bi rfl rfl rfl <| Q.mv rfl <| ?_
    refine S.tD 16 (fun hc16 => ?_) (fun hc16 => ?_)
    rotate_left
    omega
    rotate_right
    refine Q.on (Z.mv rfl) <| Q.on (Z.bi rfl rfl rfl) <| Q.pk rfl rfl <| Q.as rfl <| Q.nt <| ?_
    refine S.cD rfl (fun hc13 => ?_) (fun hc13 => ?_)
    refine Q.rg <| Q.as rfl <| Q.nt <| UW.ret <| UQ.blockR <| UQ.passR <| S.rtR (fun _ => res_tmp rfl rfl) <| ?_
    focus ((congr 2; unfold moreN; (repeat' split) <;> first | rfl | omega); done)
    refine Q.rg <| Q.mv rfl <| Q.bi rfl rfl rfl <| Q.mv rfl <| ?_
    refine S.tD 23 (fun hc23 => ?_) (fun hc23 => ?_)
    rotate_left
    omega
    rotate_right
    refine Q.on (Z.mv rfl) <| Q.on (Z.bi rfl rfl rfl) <| Q.pk rfl rfl <| Q.as rfl <| Q.nt <| ?_
    refine S.cD rfl (fun hc20 => ?_) (fun hc20 => ?_)
    refine Q.rg <| Q.as rfl <| Q.nt <| UW.ret <| UQ.blockR <| UQ.passR <| S.rtR (fun _ => res_tmp rfl rfl) <| ?_
    focus ((congr 2; unfold moreN; (repeat' split) <;> first | rfl | omega); done)
    refine UW.skip <| UQ.blockN <| UQ.then <| Q.rg <| Q.as rfl <| Q.nt <| UW.ret <| S.rtR (fun _ => res_tmp rfl rfl) <| ?_
    focus ((congr 2; unfold moreN; (repeat' split) <;> first | rfl | omega); done)
    refine Q.of <| Q.of <| Q.pk rfl rfl <| Q.as rfl <| Q.nt <| S.cF rfl rfl <| Q.rg <| Q.mv rfl <| Q.bi rfl rfl rfl <| Q.mv rfl <| ?_
    refine S.tD 16 (fun hc16 => ?_) (fun hc16 => ?_)
    omega
    refine Q.of <| Q.of <| Q.pk rfl rfl <| Q.as rfl <| Q.nt <| S.cF rfl rfl <| Q.rg <| Q.mv rfl <| Q.bi rfl rfl rfl <| Q.mv rfl <| ?_
    refine S.tD 23 (fun hc23 => ?_) (fun hc23 => ?_)
    omega
    refine Q.of <| Q.of <| Q.pk rfl rfl <| Q.as rfl <| Q.nt <| S.cF rfl rfl <| UW.skip <| UQ.blockN <| UQ.then <| Q.rg <| Q.as rfl <| Q.nt <| UW.ret <| S.rtR (fun _ => res_tmp rfl rfl) <| ?_
    focus ((congr 2; unfold moreN; (repeat' split) <;> first | rfl | omega); done)
end Go.Proofs.Ytopaddebalfoeaa
