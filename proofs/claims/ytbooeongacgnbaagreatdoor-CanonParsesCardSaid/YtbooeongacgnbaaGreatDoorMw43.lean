/- A part of the proof. -/
import Derived.Test.YtbooeongacgnbaaGreatDoorMw41
import Derived.Test.YtbooeongacgnbaaGreatDoorMw42
import Derived.Test.YtbooeongacgnbaaGreatDoorMw16
set_option maxRecDepth 100000
set_option maxHeartbeats 4000000
set_option linter.unusedSectionVars false
set_option linter.unusedVariables false
set_option linter.unusedSimpArgs false
section
namespace Go.Proofs.YtbooeongacgnbaaGreatDoor
open Go Go.gW Go.RowKit
def KS:ByteArray:=⟨#[123,34,97,34,58,91,93,44,34,98,34,58,49,125]⟩
theorem IJ:bJ yC=KS:=by kernel_rfl
theorem Nk:qG BI=false:=by
 unfold qG
 rw[FX]
 kernel_rfl
theorem KT:qG BJ=true:=by
 unfold qG
 rw[FY]
 kernel_rfl
theorem PQ(H:Hp){ga gb:Addr}(hG:bO ga gb H):F Tryz.prog 11 [] H (bn H (.v (.bool true))):=by
 have hk1:∀H,bO ga gb H->F Tryz.prog 19 [.v (.string known1)] H (bn H (.dH [.agg (aN yC),.v (.int .u16 0),.v (.int .i64 0)])):=λH hG=>by
  have:=og known1 H hG
  rw[xD] at this
  exact this
 have hk2:∀H,bO ga gb H->F Tryz.prog 19 [.v (.string iN)] H (bn H (.dH [.agg (aN zeroV),.v (.int .u16 11),.v (.int .i64 3)])):=λH hG=>by
  have:=og iN H hG
  rw[FW] at this
  exact this
 have hk3:∀H,bO ga gb H->F Tryz.prog 22 [.v (.string BI)] H (bn H (.v (.bool false))):=λH hG=>by
  have:=rP BI H hG
  rw[Nk] at this
  exact this
 have hk4:∀H,bO ga gb H->F Tryz.prog 22 [.v (.string BJ)] H (bn H (.v (.bool true))):=λH hG=>by
  have:=rP BJ H hG
  rw[KT] at this
  exact this
 have PU:∀H,bO ga gb H->F Tryz.prog 16 [.agg (aN yC)] H (bn H (.v (.string KS))):=λH hG=>by
  have hp:=xA known1
  rw[xD] at hp
  have:=vw yC hp.fits hp H hG
  rw[IJ] at this
  exact this
 refine aA (n:=39) (H0:=H) (M:=[]) Tryz.func11 (by kernel_rfl) U (by rw[Tryz.ntmps11];rfl) .nil<|?_
 focus
  refine Q.rg<|Q.as U<|Q.nt<|Q.rg<|S.qu (Z.bU U U (λH hS=>hk1 H (hG.mono hS)))<|Q.mv U<|S.qu (Z.ex U U)<|S.qu (Z.ex U U)<|S.qu (Z.ex U U)<|S.dd<|D.al z27 U U U λp1=>S.s<|D.st 0 ay U U U U U U U U λ_=>Q.as U<|Q.as U<|Q.nt<|Q.rg<|S.qu (Z.bU U U (λH hS=>hk2 H (hG.mono hS)))<|Q.mv U<|S.qu (Z.ex U U)<|S.qu (Z.ex U U)<|S.qu (Z.ex U U)<|S.dd<|D.al z27 U U U λp4=>S.s<|D.st 0 ay U U U U U U U U λ_=>Q.as U<|Q.as U<|Q.nt<|Q.rg<|Q.mv U<|Q.bi U U U<|Q.mv U<|?_
  refine S.tE 19 (λhc19=>?_) (λhc19=>?_)
  rotate_left
  omega
  refine Q.on (Z.bg 1 ay U U U)<|Q.on (Z.bU U U (λH hS=>PU H (hG.mono hS)))<|Q.on (Z.tT (Z.bs U U U) (beq_self_eq_true KS.toList))<|Q.pk U U<|Q.mv U<|Q.on (Z.mv U)<|Q.on (Z.bi U U U)<|Q.pk U U<|Q.mv U<|S.tT 28 (cZ (by omega))<|Q.on (Z.mv U)<|Q.on (Z.bi U U U)<|Q.pk U U<|Q.mv U<|S.tT 32 (cZ (by omega))<|Q.on (Z.bU U U (λH hS=>hk3 H (hG.mono hS)))<|Q.on (Z.not U)<|Q.pk U U<|Q.mv U<|S.tT 36 U<|Q.on (Z.bU U U (λH hS=>hk4 H (hG.mono hS)))<|Q.pk U U<|Q.as U<|Q.nt<|UW.ret<|S.bG (λ_=>au U U)<|?_
  rfl
theorem IK(s:ByteArray)(H:Hp){ga gb:Addr}(hG:bO ga gb H):F Tryz.prog 13 [.v (.string s)] H (bn H (.v (.bool true))):=by
 have hp:=λH hG=>og s H (ga:=ga) (gb:=gb) hG
 have hu:=λH=>yX s H
 have hc:=λH hG=>rP s H (ga:=ga) (gb:=gb) hG
 have hd:=λH=>IE s H
 have he:=SH s
 have hpr:=xA s
 have hsm:=λH=>JB (eT s).1 hpr.fits (eT s).1 H
 rw[Nj _ hpr.fits] at hsm
 unfold BC at hp
 unfold Bv at hu
 clear hpr
 generalize qG s=cb at*
 generalize eT s=r at*
 obtain⟨v,e,q⟩:=r
 obtain⟨he0,he1⟩:=he
 dsimp only at hp hu hsm he0 he1
 obtain⟨v0,v1,v2,v3,v4⟩:=v
 refine aA (n:=42) (H0:=H) (M:=[]) Tryz.func13 (by kernel_rfl) U (by rw[Tryz.ntmps13];rfl) .nil<|?_
 focus
  refine Q.rg<|Q.as U<|Q.nt<|Q.rg<|Q.mv U<|S.qu (Z.bU U U (λH hS=>hp H (hG.mono hS)))<|Q.mv U<|S.qu (Z.ex U U)<|S.qu (Z.ex U U)<|S.qu (Z.ex U U)<|S.dd<|D.al z27 U U U λp3=>S.s<|D.st 0 ay U U U U U U U U λ_=>Q.as U<|Q.as U<|Q.nt<|Q.rg<|Q.mv U<|S.qu (Z.call U U (λH=>hu H))<|Q.mv U<|S.qu (Z.ex U U)<|S.qu (Z.ex U U)<|S.qu (Z.ex U U)<|S.dd<|D.al z27 U U U λp6=>S.s<|D.st 0 ay U U U U U U U U λ_=>Q.as U<|Q.as U<|Q.nt<|Q.rg<|S.qu (Z.bg 1 ay U U U)<|S.qu (Z.bg 0 ay U U U)<|S.qu (Z.call U U (λH=>hsm H))<|Q.mv U<|Q.on (Z.mv U)<|Q.on (Z.cv Tryz.underlying3 U (IntWalk.i64_in _ (by omega)) (by rw[Tryz.underlying35];rfl))<|?_
  refine Q.on (Z.mv U)<|Q.on (Z.bi U U U)<|Q.pk U U<|Q.mv U<|?_
  refine S.tE 30 (λFJ=>?_) (λFJ=>?_)
  rotate_left
  omega
  refine Q.on (Z.mv U)<|Q.on (Z.mv U)<|Q.on (Z.bi U U U)<|Q.pk U U<|Q.mv U<|?_
  refine S.tE 35 (λZt=>?_) (λZt=>?_)
  rotate_left
  omega
  refine Q.on (Z.mv U)<|Q.on (Z.bU U U (λH hS=>hc H (hG.mono hS)))<|Q.on (Z.mv U)<|Q.on (Z.call U U (λH=>hd H))<|Q.on (Z.beq Tryz.underlying4 U U)<|Q.pk U U<|Q.as U<|Q.nt<|UW.ret<|S.bG (λ_=>au U U)<|?_
 rw[beq_self_eq_true]
theorem IL(s:ByteArray)(c d:List Int)(hc:BR c)(ZX:BR d)(k:Int)(hk0:0<=k)(hk1:k<256)(H:Hp){ga gb:Addr}(hG:bO ga gb H):F Tryz.prog 3 [.v (.string s),xH c,xH d,.v (.int .u8 k)] H (bn H (.v (.bool true))):=by
 have hkn:=λH hG=>PQ H (ga:=ga) (gb:=gb) hG
 have hps:=λs H hG=>IK s H (ga:=ga) (gb:=gb) hG
 have X7:=λH=>Ni d ZX k hk0 hk1 H
 have hw:=PG ZX k hk0
 have hgd:=KO d k hk0
 have hpr:Pr (pg d k):=⟨hgd.1,hw.num,by have:=hw.wt;omega⟩
 have hp1:=λH hG=>vw _ hpr.fits hpr H (ga:=ga) (gb:=gb) hG
 have hp2:=λH=>yZ _ hpr.fits hpr H
 have hsz:=KR c
 generalize bJ (pg d k)=pv at*
 generalize pg d k=v at*
 clear hpr hgd hw
 obtain⟨v0,v1,v2,v3,v4⟩:=v
 have ZY:=λH=>PO c hc H
 have hrw:=λH=>PN c hc H
 generalize y5 c=sc at*
 generalize DK c=rc at*
 by_cases hs:300<s.size
 ·refine aA (n:=58) (H0:=H) (M:=[]) Tryz.func3 (by kernel_rfl) U (by rw[Tryz.ntmps3];rfl) .nil<|?_
  focus
   refine Q.rg<|Q.as U<|Q.nt<|S.sq<|Q.rg<|Q.mv U<|S.qu (Z.fC Tryz.underlying9 U)<|Q.bi U U U<|Q.mv U<|?_
   refine S.tD 13 (λpY=>?_) (λpY=>?_)
   rotate_left
   omega
   refine Q.of<|Q.of<|Q.pk U U<|Q.nt<|S.cT U U<|Q.rg<|S.qu (Z.bU U U (λH hS=>hkn H (hG.mono hS)))<|Q.as U<|Q.nt<|UW.ret<|UQ.aj<|S.bG (λ_=>au U U)<|?_
   rfl
 ·refine aA (n:=58) (H0:=H) (M:=[]) Tryz.func3 (by kernel_rfl) U (by rw[Tryz.ntmps3];rfl) .nil<|?_
  refine Q.rg<|Q.as U<|Q.nt<|S.sq<|Q.rg<|Q.mv U<|S.qu (Z.fC Tryz.underlying9 U)<|Q.bi U U U<|Q.mv U<|?_
  refine S.tD 13 (λpY=>?_) (λpY=>?_)
  omega
  refine Q.on (Z.bU U U (λH hS=>hkn H (hG.mono hS)))<|Q.on (Z.not U)<|Q.pk U U<|Q.nt<|S.cF U U<|UW.skip<|UQ.then<|Q.rg<|Q.mv U<|Q.mv U<|S.qu (Z.call U U (λH=>X7 H))<|S.dd<|D.al z27 U U U λp9=>S.s<|D.st 0 ay U U U U U U U U λ_=>Q.nt<|S.sq<|?_
  refine' UW.dC (by kernel_rfl) [0,1,3,7,15,31,63,127,255,511,1023,2047,4095,8191,16383,8191,65535,131071,262143,524287,1048575,2097151,4194303,8388607,16777215,33554431,67108863,134217727,268435455,536870911,1073741823,2147483647,4294967295,8589934591,17179869183,34359738367,68719476735,137438953471] [some 21,some 22,some 23,some 24,some 25,some 26,some 27,some 28,some 29,some 30,some 31,some 32,some 33,some 34,some 35,some 36,some 37,some 38,some 39,some 40,some 41,some 42,some 43,some 44,some 45,some 46,some 47,some 48,some 49,some 50,some 51,some 52,some 53,some 54,some 55,some 56,some 57,some 8] [some (21,_),some (22,_),some (23,_),some (24,_),some (25,_),some (26,_),some (27,_),some (28,_),some (29,_),some (30,_),some (31,_),some (32,_),some (33,_),some (34,_),some (35,_),some (36,_),some (37,_),some (38,_),some (39,_),some (40,_),some (41,_),some (42,_),some (43,_),some (44,_),some (45,_),some (46,_),some (47,_),some (48,_),some (49,_),some (50,_),some (51,_),some (52,_),some (53,_),some (54,_),some (55,_),some (56,_),some (57,_),some (8,_)] [] [13,15,20] U (by decide) (by decide) (I.free (by decide) U U ?ic (I.free (by decide) U U ?ig (I.free (by decide) U U ?mX (I.free (by decide) U U ?qj (I.free (by decide) U U ?ql (I.free (by decide) U U ?uL (I.free (by decide) U U ?uM (I.free (by decide) U U ?uO (I.free (by decide) U U ?uP (I.free (by decide) U U ?uQ (I.free (by decide) U U ?qm (I.free (by decide) U U ?wB (I.free (by decide) U U ?wC (I.held (by decide) U U ?wD (I.free (by decide) U U ?wE (I.held (by decide) U U ?wF (I.free (by decide) U U ?wG (I.free (by decide) U U ?wH (I.free (by decide) U U ?wI (I.free (by decide) U U ?wJ (I.held (by decide) U U ?wK (I.free (by decide) U U ?wL (I.free (by decide) U U ?wM (I.free (by decide) U U ?Fb (I.free (by decide) U U ?SI (I.free (by decide) U U ?SK (I.free (by decide) U U ?SL (I.free (by decide) U U ?SN (I.free (by decide) U U ?SQ (I.free (by decide) U U ?SS (I.free (by decide) U U ?SV (I.free (by decide) U U ?SX (I.free (by decide) U U ?SY (I.free (by decide) U U ?S9 (I.free (by decide) U U ?Ta (I.free (by decide) U U ?Tc (I.free (by decide) U U ?Td (I.free (by decide) U U ?Te I.nil)))))))))))))))))))))))))))))))))))))) ?oF
  case ic=>(intro _;exact Z.mv rfl)
  case ig=>(intro _;exact Z.bU rfl rfl (λH hS=>hps _ H (hG.mono hS)))
  case mX=>(intro _;exact Z.mv rfl)
  case qj=>(intro _;exact Z.on (Z.mv rfl))
  case ql=>(intro _;exact Z.on (Z.call rfl rfl (λH=>ZY H)))
  case uL=>(intro _;exact Z.on (Z.bU rfl rfl (λH hS=>hps _ H (hG.mono hS))))
  case uM=>(intro _;exact Z.pick rfl rfl)
  case uO=>(intro _;exact Z.mv rfl)
  case uP=>(intro _;exact Z.on (Z.mv rfl))
  case uQ=>(intro _;exact Z.on (Z.call rfl rfl (λH=>hrw H)))
  case qm=>(intro _;exact Z.on (Z.bU rfl rfl (λH hS=>hps _ H (hG.mono hS))))
  case wB=>(intro _;exact Z.pick rfl rfl)
  case wC=>(intro _;exact Z.mv rfl)
  case wD=>exact Z.on (Z.bg 0 ay rfl rfl rfl)
  case wE=>(intro _;exact Z.on (Z.bU rfl rfl (λH hS=>hp1 H (hG.mono hS))))
  case wF=>exact Z.on (Z.bg 0 ay rfl rfl rfl)
  case wG=>(intro _;exact Z.on (Z.call rfl rfl (λH=>hp2 H)))
  case wH=>(intro _;exact Z.on (Z.tT (Z.bs rfl rfl rfl) (beq_self_eq_true _)))
  case wI=>(intro _;exact Z.pick rfl rfl)
  case wJ=>(intro _;exact Z.mv rfl)
  case wK=>exact Z.on (Z.bg 0 ay rfl rfl rfl)
  case wL=>(intro _;exact Z.on (Z.call rfl rfl (λH=>hp2 H)))
  case wM=>(intro _;exact Z.on (Z.bU rfl rfl (λH hS=>hps _ H (hG.mono hS))))
  case Fb=>(intro _;exact Z.pick rfl rfl)
  case SI=>(intro _;exact Z.mv rfl)
  case SK=>(intro _;exact Z.on (Z.mv rfl))
  case SL=>(intro _;exact Z.on (Z.cat rfl rfl (by show 1+s.size<=_;omega)))
  case SN=>(intro _;exact Z.on (Z.cat rfl rfl (by rw[ByteArray.size_append];show 1+s.size+1<=_;omega)))
  case SQ=>(intro _;exact Z.on (Z.bU rfl rfl (λH hS=>hps _ H (hG.mono hS))))
  case SS=>(intro _;exact Z.pick rfl rfl)
  case SV=>(intro _;exact Z.mv rfl)
  case SX=>(intro _;exact Z.on (Z.mv rfl))
  case SY=>(intro _;exact Z.on (Z.call rfl rfl (λH=>ZY H)))
  case S9=>(intro _;exact Z.on (Z.cat rfl rfl (by show 5+sc.size<=_;omega)))
  case Ta=>(intro _;exact Z.on (Z.cat rfl rfl (by rw[ByteArray.size_append];show 5+sc.size+1<=_;omega)))
  case Tc=>(intro _;exact Z.on (Z.bU rfl rfl (λH hS=>hps _ H (hG.mono hS))))
  case Td=>(intro _;exact Z.pick rfl rfl)
  case Te=>(intro _;exact Z.as rfl)
  refine CH.nil<|?_
  simp only[app,bV]
  refine UQ.then<|UW.ret<|S.bG (λ_=>au U U)<|?_
  rfl
theorem F3(s:ByteArray)(c d:List Int)(k:Int)(hc:BR c)(hd:BR d)(h0:0<=k)(h1:k<=255)(H:Hp){ga gb:Addr}(hG:bO ga gb H):F Tryz.prog 3 [.v (.string s),xH c,xH d,.v (.int .u8 k)] H (bn H (.v (.bool true))):=IL s c d hc hd k h0 (by omega) H hG
end Go.Proofs.YtbooeongacgnbaaGreatDoor
end
