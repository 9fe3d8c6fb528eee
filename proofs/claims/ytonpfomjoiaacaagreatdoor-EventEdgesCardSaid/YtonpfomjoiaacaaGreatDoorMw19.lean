/- A part of the proof. -/
import Derived.Test.YtonpfomjoiaacaaGreatDoorMw17
import Derived.Test.YtonpfomjoiaacaaGreatDoorRows
import Derived.Test.YtonpfomjoiaacaaGreatDoorMw18
import Derived.ProofKit
import Derived.MakeChecks
import Derived.LaidMore
import Derived.LaidOnce
import Derived.Lay
import Derived.Stop.LaidErr
import Derived.Stop.Joined
import Derived.SevenTiedAt
import Derived.ShutString
import Derived.ChangeMaps5
set_option maxRecDepth 100000
set_option maxHeartbeats 4000000
set_option linter.unusedSectionVars false
set_option linter.unusedVariables false
set_option linter.unusedSimpArgs false
section
namespace Go.Proofs.YtonpfomjoiaacaaGreatDoor
open Go Go.ChangeAt Go.ChangeShapes Go.iG Go.RowKit Go.WideShapes
def lF(W:World):Prop:=∃ρ H,eu ρ H W/\(∀k,¬iG.Own ρ H k)/\fA H
theorem RX{W:World}{name:String}{k:IntKind}{zs:List Int}{g:Nat}(hg:Tryz.prog.globalNamed name=some g)(h:Lib.TabIs Tryz.prog W name k zs):∃t p,W.heap[g]? =some (.cells (zs.map λz=>Value.int k z).toArray t p):=by
 unfold Lib.TabIs World.var? at h
 rw[hg] at h
 simp only[Option.bind_some] at h
 split at h
 ·rename_i cs t p e
  cases h
  exact⟨t,p,e⟩
 ·cases h
theorem VA{W:World}{g0 g1:Nat}(n0:Tryz.prog.globalNamed "internal/strconv.uint64pow10" =some g0)(n1:Tryz.prog.globalNamed "strings.asciiSpace" =some g1)
 (h0:Lib.TabIs Tryz.prog W "internal/strconv.uint64pow10" .u64 Lib.pow10Tab) (h1:Lib.TabIs Tryz.prog W "strings.asciiSpace" .u8 Lib.asciiSpaceTab):lF W:=by
 obtain⟨t0,p0,e0⟩:=RX n0 h0
 obtain⟨t1,p1,e1⟩:=RX n1 h1
 let H:Hp:=λi=>if i=0 then some (.raw g0 (.cells (Lib.pow10Tab.map λz=>Value.int .u64 z).toArray t0 p0)) else if i=1 then some (.raw g1 (.cells (Lib.asciiSpaceTab.map λz=>Value.int .u8 z).toArray t1 p1)) else none
 let ρ:ik:=λi=>if i<2 then some (.bool true) else none
 have hb:∀i v,ρ i=some v->v=.bool true:=λi v h=>by
  simp only[ρ] at h
  split at h
  ·cases h;rfl
  ·cases h
 have hno:∀k,¬iG.Own ρ H k:=by
  rintro k ⟨i,ob,v,_,h2,h3⟩
  rw[hb i v h2] at h3
  cases h3
 refine⟨ρ,H,⟨?_,?_,⟨2,λid h=>if_neg (by omega)⟩,λi v k h2 h3=>by rw[hb i v h2] at h3;cases h3⟩,hno,⟨g0,t0,p0,n0,rfl⟩,⟨g1,t1,p1,n1,rfl⟩⟩
 ·intro i ob h
  simp only[H] at h
  split at h
  ·rename_i hi
   subst hi
   cases h
   exact⟨.bool true,rfl,rfl,hno _,e0,_,_,_,rfl⟩
  ·split at h
   ·rename_i hi
    subst hi
    cases h
    exact⟨.bool true,rfl,rfl,hno _,e1,_,_,_,rfl⟩
   ·cases h
 ·intro i i' ob yT v v' k _ _ h3 _ h5 _
  rw[hb i v h3] at h5
  cases h5
theorem lF.yc{W:World}(h:laidMetH Tryz.prog Rows.eventShapeRow.laid W):lF W:=by
 rw[MakeChecks.laidMetH_plain _ _ _ (by kernel_rfl)] at h
 have a:=laidMet.tail (laidMet.tail h)
 have b:=laidMet.tail (laidMet.tail a)
 have n0:Tryz.prog.globalNamed "internal/strconv.uint64pow10" =some 2:=by kernel_rfl
 have n1:Tryz.prog.globalNamed "strings.asciiSpace" =some 0:=by kernel_rfl
 have d0:(Rows.laid_internal_strconv_uint64pow10:DataW Unit)=Lib.tabData .u64 Lib.pow10Tab:=by kernel_rfl
 have d1:(Rows.laid_strings_asciiSpace:DataW Unit)=Lib.tabData .u8 Lib.asciiSpaceTab:=by kernel_rfl
 rw[d0] at a
 rw[d1] at b
 exact VA n0 n1 (Lib.tabIs_of_head (t:=219) (e:=107) (n:=20) n0 (by kernel_rfl) (by kernel_rfl) (by kernel_rfl) (by kernel_rfl) (by kernel_rfl) a)
  (Lib.tabIs_of_head (t:=173) (e:=5) (n:=256) n1 (by kernel_rfl) (by kernel_rfl) (by kernel_rfl) (by kernel_rfl) (by kernel_rfl) b)
theorem au.Cq{P:Program}{f:Nat}{us:List AV}{r:Value}{ρ:ik}{H:Hp}(h:au P f us H (bB H (.v r)))(W:World)(hh:eu ρ H W)(hno:∀k,¬iG.Own ρ H k)(vals:List Value)(hv:MH (bF ρ H) ρ W us vals):
 Calls P f vals.toArray W λe w'=>e=.returned r/\Below W.heap.size W w':=
 (h.2 ρ W vals hh hv).mono λe w' ⟨x,ρ',u,H',h1,h2,h3,h4,h5,h6⟩=>⟨by rw[h1];subst h5;rw[aV h4],⟨h3.os,h3.tape,h3.output,h3.size,λk hk=>h3.block k hk (hno k)⟩⟩
theorem RY{W:World}{ρ:ik}{H:Hp}{u:AV}{x:Value}(hno:∀k,¬iG.Own ρ H k)(h:eF (bF jy A8) jy W u x):eF (bF ρ H) ρ W u x:=h.mono (λk _ _=>⟨hno k,rfl⟩) (λ_ _ h=>by cases h)
theorem own:ownKnob Tryz.prog.godebug=none:=by kernel_rfl
noncomputable def wit (os:Os):World:=World.laidAll Tryz.prog os Rows.eventShapeRow.laid
theorem nN(os:Os)(args:Array Value):((wit os).forCall (λ_ _=>0) ⟨#[],args,[]⟩).Shaped Tryz.prog:=World.shaped_of_ZipB (by kernel_rfl) (by kernel_rfl)
theorem tu(os:Os)(args:Array Value):laidMetH Tryz.prog Rows.eventShapeRow.laid ((wit os).forCall (λ_ _=>0) ⟨#[],args,[]⟩).memory:=by
 rw[MakeChecks.laidMetH_plain _ _ _ (by kernel_rfl)]
 exact laidMet_laidAll args (by kernel_rfl) (by kernel_rfl)
end Go.Proofs.YtonpfomjoiaacaaGreatDoor
end
