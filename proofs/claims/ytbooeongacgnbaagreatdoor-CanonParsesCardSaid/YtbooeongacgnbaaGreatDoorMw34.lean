/- A part of the proof. -/
import Derived.Test.YtbooeongacgnbaaGreatDoorMw33
import Derived.Test.YtbooeongacgnbaaGreatDoorMw17
set_option maxRecDepth 100000
set_option maxHeartbeats 4000000
set_option linter.unusedSectionVars false
set_option linter.unusedVariables false
set_option linter.unusedSimpArgs false
section
namespace Go.Proofs.YtbooeongacgnbaaGreatDoor
open Go Go.gW Go.RowKit
def Wj(s:ByteArray)(d:Nat)(v:V):PR->AV
 | .err e q=> .dH [.agg (tq s q e d),.agg (aN v)]
 | .ok q w=> .dH [.agg (dZ s q d),.agg (aN w)]
theorem Dq{P:Program}{f:Nat}{us:List AV}{s:ByteArray}{d q:Nat}{u:V}(h:∀H,F P f us H (j5 s d H (.ok q u)))(H:Hp):F P f us H (bn H (.dH [.agg (dZ s q d),.agg (aN u)])):=(h H).mono (λu H' hq=>⟨hq.2,hq.1⟩)
theorem Sc(s:ByteArray)(p d:Nat)(hs:s.size<=1000000)(hp:p<=s.size)(v:V)(hv:Fits v)(hq:gV (s.extract p s.size)=none)(H:Hp):F Tryz.prog 85 [.agg (dZ s p d),.agg (aN v)] H (bn H (.dH [.agg (tq s p 11 d),.agg (aN v)])):=by
 have hst:∀H,F Tryz.prog 64 [.agg (dZ s p d)] H (bn H (.dH [.agg (tq s p 11 d),.v (.string ⟨#[]⟩)])):=λH=>by
  have:=mg s p d hs hp H
  rw[hq] at this
  exact this
 have hg:∀H,F Tryz.prog 110 [.agg (aN v),.v (.string ⟨#[]⟩)] H (bn H (.dH [.agg (aN (gL v ⟨#[]⟩).1),.v (.bool (gL v ⟨#[]⟩).2)])):=λH=>oZ v hv ⟨#[]⟩ H
 generalize (gL v ⟨#[]⟩).1=g at*
 generalize (gL v ⟨#[]⟩).2=b at*
 have h11:(11:Int)≠0:=by decide
 refine aA (n:=55) (H0:=H) (M:=[]) Tryz.func85 (by kernel_rfl) U (by rw[Tryz.ntmps85];rfl) .nil<|?_
 refine Q.rg<|S.dd<|D.box U U U λp2=>S.dd<|D.box U U (by exact aH _) λp3=>?_
 refine S.dd<|D.al z72 U U U λp4=>S.dd<|D.al z27 U U U λp5=>Q.nt<|Q.rg<|Q.fa bB U<|Q.lc 3 bC U U U<|Q.as U<|Q.nt<|Q.rg<|S.qu (Z.bg 3 aF U U U)<|S.qu (Z.call U U (λH=>hst H))<|Q.mv U<|S.qu (Z.ex U U)<|S.qu (Z.ex U U)<|S.dd<|D.al z72 U U U λp7=>S.s<|D.st 0 aF U U U U U U U U λ_=>Q.as U<|Q.nt<|Q.rg<|S.qu (Z.bg 3 ay U U (ak _))<|Q.mv U<|S.qu (Z.call U U (λH=>hg H))<|Q.mv U<|S.qu (Z.ex U U)<|S.qu (Z.ex U U)<|S.dd<|D.al z27 U U U λp9=>S.s<|D.l8 0 ay U U U U (by exact aH _) (ak _) U U λ_=>?_
 refine Q.as U<|Q.nt<|S.sq<|Q.rg<|Q.fa dz U<|Q.lc 1 bC U U U<|Q.bi U U U<|Q.mv U<|S.tF 29 (bf (by omega))<|Q.of<|Q.pk U U<|Q.nt<|S.cF U U<|UW.skip<|UQ.then<|Q.rg<|S.qu (Z.bg 1 aF U U U)<|S.qu (Z.call U U (λH=>fq s p d 11 h11 H))<|S.qu (Z.call U U (λH=>uV s p d 11 h11 58 H))<|S.qu (Z.call U U (λH=>fq s p d 11 h11 H))<|S.qu (Z.call U U (λH=>yU s p d 11 h11 H))<|Q.mv U<|S.qu (Z.ex U U)<|S.qu (Z.ex U U)<|S.dd<|D.al z72 U U U λWh=>S.dd<|D.al z27 U U U λWH=>S.s<|D.st 1 aF U U U U U U U U λ_=>S.s<|D.st 0 ay U U U U U U U U λ_=>Q.nt<|S.sq<|Q.rg<|Q.fa dz U<|Q.lc 1 bC U U U<|Q.bi U U U<|Q.nt<|S.cT U (jM (by omega))<|S.sq<|?_
 refine' UW.gF (by kernel_rfl) [6] [0,0,1,7] [some 48,some 49,none,none] [some (48,_),some (49,_),none,none] [2,3] [0] U (by decide) (by decide) (I.held (by decide) U U ?jK (I.kept (by decide) U U ?jL (I.skip (I.skip I.nil)))) ?u7
 case jK=>exact Z.bg 1 aF rfl rfl rfl
 case jL=>(intro _ hK;exact Z.kw 0 hK ay rfl rfl (ak _))
 refine CH.aV U U ?_ (.c 6 U .n)
 refine D.st 5 aF U U U U U U U U λ_=>?_
 refine CH.aV U U ?_ (.c 6 U .n)
 refine D.l8 4 ay U U U U (by exact aH _) (ak _) U U λ_=>?_
 refine CH.nil ?_ (.c 6 U .n)
 simp only[app,bV]
 refine UQ.then<|UW.ret<|UQ.aj<|S.bG (λhd=>ax U (av (k:=5) hd U U fM fO) (av (k:=4) hd U U bH (by rw[ak];exact bI)))<|?_
 rfl
theorem Sd(s:ByteArray)(p d n:Nat)(key:ByteArray)(hs:s.size<=1000000)(hp:p<=s.size)(v:V)(hv:Fits v)(hq:gV (s.extract p s.size)=some (key,n))(Ou:(gL v key).2=true)(H:Hp):F Tryz.prog 85 [.agg (dZ s p d),.agg (aN v)] H (bn H (.dH [.agg (tq s p 14 d),.agg (aN v)])):=by
 have hst:∀H,F Tryz.prog 64 [.agg (dZ s p d)] H (bn H (.dH [.agg (dZ s (p+n) d),.v (.string key)])):=λH=>by
  have:=mg s p d hs hp H
  rw[hq] at this
  exact this
 have hg:∀H,F Tryz.prog 110 [.agg (aN v),.v (.string key)] H (bn H (.dH [.agg (aN (gL v key).1),.v (.bool true)])):=λH=>Ou▸oZ v hv key H
 have hf:∀H,F Tryz.prog 44 [.agg (dZ s p d),.v (.int .i64 14)] H (bn H (.agg (tq s p 14 d))):=λH=>jJ s p d 0 14 H
 generalize (gL v key).1=g at*
 refine aA (n:=55) (H0:=H) (M:=[]) Tryz.func85 (by kernel_rfl) U (by rw[Tryz.ntmps85];rfl) .nil<|?_
 focus
  refine Q.rg<|S.dd<|D.box U U U λp2=>S.dd<|D.box U U (by exact aH _) λp3=>?_
  refine S.dd<|D.al z72 U U U λp4=>S.dd<|D.al z27 U U U λp5=>Q.nt<|Q.rg<|Q.fa bB U<|Q.lc 3 bC U U U<|Q.as U<|Q.nt<|Q.rg<|S.qu (Z.bg 3 aF U U U)<|S.qu (Z.call U U (λH=>hst H))<|Q.mv U<|S.qu (Z.ex U U)<|S.qu (Z.ex U U)<|S.dd<|D.al z72 U U U λp7=>S.s<|D.st 0 aF U U U U U U U U λ_=>Q.as U<|Q.nt<|Q.rg<|S.qu (Z.bg 3 ay U U (ak _))<|Q.mv U<|S.qu (Z.call U U (λH=>hg H))<|Q.mv U<|S.qu (Z.ex U U)<|S.qu (Z.ex U U)<|S.dd<|D.al z27 U U U λp9=>S.s<|D.l8 0 ay U U U U (by exact aH _) (ak _) U U λ_=>?_
  refine Q.as U<|Q.nt<|S.sq<|Q.rg<|Q.fa dz U<|Q.lc 1 bC U U U<|Q.bi U U U<|Q.mv U<|?_
  refine S.tE 29 (λhc29=>?_) (λhc29=>?_)
  rotate_left
  omega
  refine Q.on (Z.mv U)<|Q.pk U U<|Q.nt<|S.cT U U<|Q.rg<|Q.mv U<|Q.fa bB U<|S.s<|D.st 1 bC U U U U U U U U λ_=>Q.nt<|S.sq<|?_
  refine' UW.gF (by kernel_rfl) [4] [0,1,0,3,15] [some 34,some 35,some 36,none,none] [some (34,_),some (35,_),some (36,_),none,none] [3,4] [0] U (by decide) (by decide) (I.held (by decide) U U ?gY (I.free (by decide) U U ?gZ (I.kept (by decide) U U ?iK (I.skip (I.skip I.nil))))) ?oD
  case gY=>exact Z.bg 1 aF rfl rfl rfl
  case gZ=>(intro _;exact Z.call rfl rfl (λH=>hf H))
  case iK=>(intro _ hK;exact Z.kw 0 hK ay rfl rfl (ak _))
  refine CH.aV U U ?_ (.c 4 U .n)
  refine D.st 3 aF U U U U U U U U λ_=>?_
  refine CH.aV U U ?_ (.c 4 U .n)
  refine D.l8 2 ay U U U U (by exact aH _) (ak _) U U λ_=>?_
  refine CH.nil ?_ (.c 4 U .n)
  simp only[app,bV]
  refine UQ.then<|UW.ret<|UQ.aj<|S.bG (λhd=>ax U (av (k:=3) hd U U fM fO) (av (k:=2) hd U U bH (by rw[ak];exact bI)))<|?_
  rfl
theorem Sg(s:ByteArray)(p d n:Nat)(key:ByteArray)(hs:s.size<=1000000)(hp:p<=s.size)(v:V)(hv:Fits v)(hq:gV (s.extract p s.size)=some (key,n))(hno:(gL v key).2=false)(hc:bT s (aC s (p+n)) 58=false)(H:Hp):F Tryz.prog 85 [.agg (dZ s p d),.agg (aN v)] H (bn H (.dH [.agg (tq s (aC s (p+n)) 11 d),.agg (aN v)])):=by
 have hst:∀H,F Tryz.prog 64 [.agg (dZ s p d)] H (bn H (.dH [.agg (dZ s (p+n) d),.v (.string key)])):=λH=>by
  have:=mg s p d hs hp H
  rw[hq] at this
  exact this
 have hn:=fV hq
 rw[ext_size] at hn
 have hg:∀H,F Tryz.prog 110 [.agg (aN v),.v (.string key)] H (bn H (.dH [.agg (aN (gL v key).1),.v (.bool false)])):=λH=>hno▸oZ v hv key H
 have hb:∀H,F Tryz.prog 42 [.agg (dZ s (p+n) d)] H (bn H (.agg (dZ s (aC s (p+n)) d))):=λH=>dF s (p+n) d hs (by omega) H
 have hle:=aX s (p+n) (by omega)
 generalize aC s (p+n)=c at*
 have hne:∀H,F Tryz.prog 86 [.agg (dZ s c d),.v (.int .u8 58)] H (bn H (.agg (tq s c 11 d))):=λH=>by
  have:=mY s c d 58 hs (by omega) H
  rw[hc] at this
  exact this
 generalize (gL v key).1=g at*
 have h11:(11:Int)≠0:=by decide
 refine aA (n:=55) (H0:=H) (M:=[]) Tryz.func85 (by kernel_rfl) U (by rw[Tryz.ntmps85];rfl) .nil<|?_
 focus
  refine Q.rg<|S.dd<|D.box U U U λp2=>S.dd<|D.box U U (by exact aH _) λp3=>?_
  refine S.dd<|D.al z72 U U U λp4=>S.dd<|D.al z27 U U U λp5=>Q.nt<|Q.rg<|Q.fa bB U<|Q.lc 3 bC U U U<|Q.as U<|Q.nt<|Q.rg<|S.qu (Z.bg 3 aF U U U)<|S.qu (Z.call U U (λH=>hst H))<|Q.mv U<|S.qu (Z.ex U U)<|S.qu (Z.ex U U)<|S.dd<|D.al z72 U U U λp7=>S.s<|D.st 0 aF U U U U U U U U λ_=>Q.as U<|Q.nt<|Q.rg<|S.qu (Z.bg 3 ay U U (ak _))<|Q.mv U<|S.qu (Z.call U U (λH=>hg H))<|Q.mv U<|S.qu (Z.ex U U)<|S.qu (Z.ex U U)<|S.dd<|D.al z27 U U U λp9=>S.s<|D.l8 0 ay U U U U (by exact aH _) (ak _) U U λ_=>?_
  refine Q.as U<|Q.nt<|S.sq<|Q.rg<|Q.fa dz U<|Q.lc 1 bC U U U<|Q.bi U U U<|Q.mv U<|?_
  refine S.tE 29 (λhc29=>?_) (λhc29=>?_)
  rotate_left
  omega
  refine Q.on (Z.mv U)<|Q.pk U U<|Q.nt<|S.cF U U<|UW.skip<|UQ.then<|Q.rg<|S.qu (Z.bg 1 aF U U U)<|S.qu (Z.call U U (λH=>hb H))<|S.qu (Z.call U U (λH=>hne H))<|S.qu (Z.call U U (λH=>fq s c d 11 h11 H))<|S.qu (Z.call U U (λH=>yU s c d 11 h11 H))<|Q.mv U<|S.qu (Z.ex U U)<|S.qu (Z.ex U U)<|S.dd<|D.al z72 U U U λWh=>S.dd<|D.al z27 U U U λWH=>S.s<|D.st 1 aF U U U U U U U U λ_=>S.s<|D.st 0 ay U U U U U U U U λ_=>Q.nt<|S.sq<|Q.rg<|Q.fa dz U<|Q.lc 1 bC U U U<|Q.bi U U U<|Q.nt<|S.cT U (jM (by omega))<|S.sq<|?_
  refine' UW.gF (by kernel_rfl) [6] [0,0,1,7] [some 48,some 49,none,none] [some (48,_),some (49,_),none,none] [2,3] [0] U (by decide) (by decide) (I.held (by decide) U U ?fG (I.kept (by decide) U U ?fH (I.skip (I.skip I.nil)))) ?lG
  case fG=>exact Z.bg 1 aF rfl rfl rfl
  case fH=>(intro _ hK;exact Z.kw 0 hK ay rfl rfl (ak _))
  refine CH.aV U U ?_ (.c 6 U .n)
  refine D.st 5 aF U U U U U U U U λ_=>?_
  refine CH.aV U U ?_ (.c 6 U .n)
  refine D.l8 4 ay U U U U (by exact aH _) (ak _) U U λ_=>?_
  refine CH.nil ?_ (.c 6 U .n)
  simp only[app,bV]
  refine UQ.then<|UW.ret<|UQ.aj<|S.bG (λhd=>ax U (av (k:=5) hd U U fM fO) (av (k:=4) hd U U bH (by rw[ak];exact bI)))<|?_
  rfl
theorem Si(s:ByteArray)(p d n:Nat)(key:ByteArray)(hs:s.size<=1000000)(hp:p<=s.size)(v:V)(hv:Fits v)(hq:gV (s.extract p s.size)=some (key,n))(hno:(gL v key).2=false)(hc:bT s (aC s (p+n)) 58=true)(e:Int)(he:e≠0)(q:Nat)
 (hval:∀H,F Tryz.prog 43 [.agg (dZ s (aC s (aC s (p+n)+1)) d)] H (j5 s d H (.err e q))) (H:Hp):F Tryz.prog 85 [.agg (dZ s p d),.agg (aN v)] H (bn H (.dH [.agg (tq s q e d),.agg (aN v)])):=by
 have hst:∀H,F Tryz.prog 64 [.agg (dZ s p d)] H (bn H (.dH [.agg (dZ s (p+n) d),.v (.string key)])):=λH=>by
  have:=mg s p d hs hp H
  rw[hq] at this
  exact this
 have hn:=fV hq
 rw[ext_size] at hn
 have hg:∀H,F Tryz.prog 110 [.agg (aN v),.v (.string key)] H (bn H (.dH [.agg (aN (gL v key).1),.v (.bool false)])):=λH=>hno▸oZ v hv key H
 have hb:∀H,F Tryz.prog 42 [.agg (dZ s (p+n) d)] H (bn H (.agg (dZ s (aC s (p+n)) d))):=λH=>dF s (p+n) d hs (by omega) H
 have hle:=aX s (p+n) (by omega)
 generalize aC s (p+n)=c at*
 have hlt:=bP hc
 have hne:∀H,F Tryz.prog 86 [.agg (dZ s c d),.v (.int .u8 58)] H (bn H (.agg (dZ s (c+1) d))):=λH=>by
  have:=mY s c d 58 hs (by omega) H
  rw[hc] at this
  exact this
 have hb2:∀H,F Tryz.prog 42 [.agg (dZ s (c+1) d)] H (bn H (.agg (dZ s (aC s (c+1)) d))):=λH=>dF s (c+1) d hs (by omega) H
 generalize aC s (c+1)=c2 at*
 generalize (gL v key).1=g at*
 refine aA (n:=55) (H0:=H) (M:=[]) Tryz.func85 (by kernel_rfl) U (by rw[Tryz.ntmps85];rfl) .nil<|?_
 focus
  refine Q.rg<|S.dd<|D.box U U U λp2=>S.dd<|D.box U U (by exact aH _) λp3=>?_
  refine S.dd<|D.al z72 U U U λp4=>S.dd<|D.al z27 U U U λp5=>Q.nt<|Q.rg<|Q.fa bB U<|Q.lc 3 bC U U U<|Q.as U<|Q.nt<|Q.rg<|S.qu (Z.bg 3 aF U U U)<|S.qu (Z.call U U (λH=>hst H))<|Q.mv U<|S.qu (Z.ex U U)<|S.qu (Z.ex U U)<|S.dd<|D.al z72 U U U λp7=>S.s<|D.st 0 aF U U U U U U U U λ_=>Q.as U<|Q.nt<|Q.rg<|S.qu (Z.bg 3 ay U U (ak _))<|Q.mv U<|S.qu (Z.call U U (λH=>hg H))<|Q.mv U<|S.qu (Z.ex U U)<|S.qu (Z.ex U U)<|S.dd<|D.al z27 U U U λp9=>S.s<|D.l8 0 ay U U U U (by exact aH _) (ak _) U U λ_=>?_
  refine Q.as U<|Q.nt<|S.sq<|Q.rg<|Q.fa dz U<|Q.lc 1 bC U U U<|Q.bi U U U<|Q.mv U<|?_
  refine S.tE 29 (λhc29=>?_) (λhc29=>?_)
  rotate_left
  omega
  refine Q.on (Z.mv U)<|Q.pk U U<|Q.nt<|S.cF U U<|UW.skip<|UQ.then<|Q.rg<|S.qu (Z.bg 1 aF U U U)<|S.qu (Z.call U U (λH=>hb H))<|S.qu (Z.call U U (λH=>hne H))<|S.qu (Z.call U U (λH=>hb2 H))<|S.dd<|D.co .nil U U (λG hD=>Bq hval G hD)<|?_
  (rintro _ _ ⟨rfl,u,rfl⟩)
  refine Q.mv U<|S.qu (Z.ex U U)<|S.qu (Z.ex U U)<|S.dd<|D.al z72 U U U λWh=>S.dd<|D.al z27 U U U λWH=>S.s<|D.st 1 aF U U U U U U U U λ_=>S.s<|D.l8 0 ay U U U U (by exact aH _) (ak _) U U λ_=>?_
  refine Q.nt<|S.sq<|Q.rg<|Q.fa dz U<|Q.lc 1 bC U U U<|Q.bi U U U<|Q.nt<|S.cT U (jM (by omega))<|S.sq<|?_
  refine' UW.gF (by kernel_rfl) [6] [0,0,1,7] [some 48,some 49,none,none] [some (48,_),some (49,_),none,none] [2,3] [0] U (by decide) (by decide) (I.held (by decide) U U ?ic (I.kept (by decide) U U ?ig (I.skip (I.skip I.nil)))) ?oF
  case ic=>exact Z.bg 1 aF rfl rfl rfl
  case ig=>(intro _ hK;exact Z.kw 0 hK ay rfl rfl (ak _))
  refine CH.aV U U ?_ (.c 6 U .n)
  refine D.st 5 aF U U U U U U U U λ_=>?_
  refine CH.aV U U ?_ (.c 6 U .n)
  refine D.l8 4 ay U U U U (by exact aH _) (ak _) U U λ_=>?_
  refine CH.nil ?_ (.c 6 U .n)
  simp only[app,bV]
  refine UQ.then<|UW.ret<|UQ.aj<|S.bG (λhd=>ax U (av (k:=5) hd U U fM fO) (av (k:=4) hd U U bH (by rw[ak];exact bI)))<|?_
  rfl
theorem Sj(s:ByteArray)(p d n:Nat)(key:ByteArray)(hs:s.size<=1000000)(hp:p<=s.size)(v:V)(hv:Fits v)(hks:∀k∈v.ks,k.size<=4000000)(hq:gV (s.extract p s.size)=some (key,n))(hno:(gL v key).2=false)(hc:bT s (aC s (p+n)) 58=true)(u:V)(q:Nat)
 (hval:∀H,F Tryz.prog 43 [.agg (dZ s (aC s (aC s (p+n)+1)) d)] H (j5 s d H (.ok q u))) (H:Hp):F Tryz.prog 85 [.agg (dZ s p d),.agg (aN v)] H (bn H (.dH [.agg (dZ s q d),.agg (aN (dE v key u))])):=by
 have hst:∀H,F Tryz.prog 64 [.agg (dZ s p d)] H (bn H (.dH [.agg (dZ s (p+n) d),.v (.string key)])):=λH=>by
  have:=mg s p d hs hp H
  rw[hq] at this
  exact this
 have hn:=fV hq
 rw[ext_size] at hn
 have hg:∀H,F Tryz.prog 110 [.agg (aN v),.v (.string key)] H (bn H (.dH [.agg (aN (gL v key).1),.v (.bool false)])):=λH=>hno▸oZ v hv key H
 have hw:∀H,F Tryz.prog 41 [.agg (aN v),.v (.string key),.agg (aN u)] H (bn H (.agg (aN (dE v key u)))):=λH=>qp v hv hks key u H
 have hb:∀H,F Tryz.prog 42 [.agg (dZ s (p+n) d)] H (bn H (.agg (dZ s (aC s (p+n)) d))):=λH=>dF s (p+n) d hs (by omega) H
 have hle:=aX s (p+n) (by omega)
 generalize aC s (p+n)=c at*
 have hlt:=bP hc
 have hne:∀H,F Tryz.prog 86 [.agg (dZ s c d),.v (.int .u8 58)] H (bn H (.agg (dZ s (c+1) d))):=λH=>by
  have:=mY s c d 58 hs (by omega) H
  rw[hc] at this
  exact this
 have hb2:∀H,F Tryz.prog 42 [.agg (dZ s (c+1) d)] H (bn H (.agg (dZ s (aC s (c+1)) d))):=λH=>dF s (c+1) d hs (by omega) H
 generalize aC s (c+1)=c2 at*
 generalize (gL v key).1=g at*
 generalize dE v key u=w at*
 refine aA (n:=55) (H0:=H) (M:=[]) Tryz.func85 (by kernel_rfl) U (by rw[Tryz.ntmps85];rfl) .nil<|?_
 focus
  refine Q.rg<|S.dd<|D.box U U U λp2=>S.dd<|D.box U U (by exact aH _) λp3=>?_
  refine S.dd<|D.al z72 U U U λp4=>S.dd<|D.al z27 U U U λp5=>Q.nt<|Q.rg<|Q.fa bB U<|Q.lc 3 bC U U U<|Q.as U<|Q.nt<|Q.rg<|S.qu (Z.bg 3 aF U U U)<|S.qu (Z.call U U (λH=>hst H))<|Q.mv U<|S.qu (Z.ex U U)<|S.qu (Z.ex U U)<|S.dd<|D.al z72 U U U λp7=>S.s<|D.st 0 aF U U U U U U U U λ_=>Q.as U<|Q.nt<|Q.rg<|S.qu (Z.bg 3 ay U U (ak _))<|Q.mv U<|S.qu (Z.call U U (λH=>hg H))<|Q.mv U<|S.qu (Z.ex U U)<|S.qu (Z.ex U U)<|S.dd<|D.al z27 U U U λp9=>S.s<|D.l8 0 ay U U U U (by exact aH _) (ak _) U U λ_=>?_
  refine Q.as U<|Q.nt<|S.sq<|Q.rg<|Q.fa dz U<|Q.lc 1 bC U U U<|Q.bi U U U<|Q.mv U<|?_
  refine S.tE 29 (λhc29=>?_) (λhc29=>?_)
  rotate_left
  omega
  refine Q.on (Z.mv U)<|Q.pk U U<|Q.nt<|S.cF U U<|UW.skip<|UQ.then<|Q.rg<|S.qu (Z.bg 1 aF U U U)<|S.qu (Z.call U U (λH=>hb H))<|S.qu (Z.call U U (λH=>hne H))<|S.qu (Z.call U U (λH=>hb2 H))<|S.qu (Z.call U U (λH=>Dq hval H))<|Q.mv U<|S.qu (Z.ex U U)<|S.qu (Z.ex U U)<|S.dd<|D.al z72 U U U λWh=>S.dd<|D.al z27 U U U λWH=>S.s<|D.st 1 aF U U U U U U U U λ_=>S.s<|D.l8 0 ay U U U U (by exact aH _) (ak _) U U λ_=>?_
  refine Q.nt<|S.sq<|Q.rg<|Q.fa dz U<|Q.lc 1 bC U U U<|Q.bi U U U<|Q.nt<|S.cF U (fE (by omega))<|UW.skip<|UQ.then<|S.sq<|?_
  refine' UW.dC (by kernel_rfl) [0,0,0,0,14,31,63] [some 50,some 51,some 52,some 53,some 54,none,none] [some (50,_),some (51,_),some (52,_),some (53,_),some (54,_),none,none] [5,6] [0,1,3] U (by decide) (by decide) (I.held (by decide) U U ?kE (I.held (by decide) U U ?kF (I.free (by decide) U U ?mJ (I.held (by decide) U U ?mK (I.free (by decide) U U ?qo (I.skip (I.skip I.nil))))))) ?xY
  case kE=>exact Z.bg 1 aF rfl rfl rfl
  case kF=>exact Z.bg 6 ay rfl rfl (ak _)
  case mJ=>(intro _;exact Z.mv rfl)
  case mK=>exact Z.bg 0 ay rfl rfl (ak _)
  case qo=>(intro _;exact Z.call rfl rfl (λH=>hw H))
  refine CH.aV U U<|D.st 5 aF U U U U U U U U λ_=>CH.aV U U<|D.l8 4 ay U U U U (by exact aH _) (ak _) U U λ_=>?_
  refine CH.nil<|?_
  simp only[app,bV]
  refine UQ.then<|UW.ret<|S.bG (λhd=>ax U (av (k:=5) hd U U fM fO) (av (k:=4) hd U U bH (by rw[ak];exact bI)))<|?_
  rfl
theorem Kr(s:ByteArray)(p d f:Nat)(hs:s.size<=1000000)(hp:p<=s.size)(v:V)(hv:Kept p v)(hf:∀q,gM s (f+1) p d v≠.err 0 q)
 (hval:∀p',p<p'->p'<=s.size->∀H,F Tryz.prog 43 [.agg (dZ s p' d)] H (j5 s d H (fQ s f p' d))) (H:Hp):F Tryz.prog 85 [.agg (dZ s p d),.agg (aN v)] H (bn H (Wj s d v (gM s (f+1) p d v))):=by
 have hfit:=hv.fits (by omega)
 rw[gM] at hf⊢
 cases hq:gV (s.extract p s.size) with
 |none=>exact Sc s p d hs hp v hfit hq H
 |some kn=>
  obtain⟨key,n⟩:=kn
  dsimp only
  rw[hq] at hf
  dsimp only at hf
  have hn:=fV hq
  rw[ext_size] at hn
  cases hg:(gL v key).2 with
  |true=>exact Sd s p d n key hs hp v hfit hq hg H
  |false=>
   rw[hg] at hf
   cases hc:bT s (aC s (p+n)) 58 with
   |false=>exact Sg s p d n key hs hp v hfit hq hg hc H
   |true=>
    rw[hc] at hf
    rw[if_neg (by decide),if_pos U] at hf⊢
    have hlt:=bP hc
    have h1:=bu s (p+n)
    have h2:=bu s (aC s (p+n)+1)
    have h3:=aX s (aC s (p+n)+1) (by omega)
    have hvl:=hval (aC s (aC s (p+n)+1)) (by omega) h3
    cases hr:fQ s f (aC s (aC s (p+n)+1)) d with
    |err e q=>
     rw[hr] at hf hvl
     have he:e≠0:=λh=>hf q (by rw[h])
     exact Si s p d n key hs hp v hfit hq hg hc e he q hvl H
    |ok q u=>
     rw[hr] at hvl
     exact Sj s p d n key hs hp v hfit hv.2.2.1 hq hg hc u q hvl H
def VC(s:ByteArray)(d f p:Nat):Prop:=∀H,F Tryz.prog 43 [.agg (dZ s p d)] H (j5 s d H (fQ s f p d))
structure Ik(s:ByteArray)(p d f:Nat)(ob:Bool)(R:PR)(g q:Nat)(v:V)(e:Int):Prop where
 le:q<=s.size
 fuel:g<=f
 go:e=0->dP s g q d ob v=R/\p<q/\Kept q v/\4*(s.size-q)+6<=g
 err:e≠0->R=.err e q
theorem Kt(s:ByteArray)(p d f:Nat)(hs:s.size<=1000000)(hp:p<s.size)(hf:4*(s.size-p)+3<=f+1)
 (hV:∀f',f'<f->∀p',p<p'->p'<=s.size->4*(s.size-p')+4<=f'->VC s d f' p') (H:Hp):F Tryz.prog 63 [.agg (dZ s p d),.v (.int .u8 125)] H (j5 s d H (gJ s (f+1) p d true)):=by
 have hi:∀p c H,F Tryz.prog 62 [.agg (dZ s p d),.v (.int .u8 c)] H (bn H (.v (.bool (bT s p c)))):=λp c H=>ji s p d c hs H
 have h1:=bu s (p+1)
 have h2:=aX s (p+1) (by omega)
 have hb0:∀H,F Tryz.prog 42 [.agg (dZ s (p+1) d)] H (bn H (.agg (dZ s (aC s (p+1)) d))):=λH=>dF s (p+1) d hs (by omega) H
 rw[gJ]
 generalize aC s (p+1)=c at*
 cases hn:bT s c 125 with
 |true=>
  rw[if_pos (show bT s c (jY true)=true from hn)]
  refine aA (n:=71) (H0:=H) (M:=[]) Tryz.func63 (by kernel_rfl) U (by rw[Tryz.ntmps63];rfl) .nil<|?_
  refine Q.rg<|S.dd<|D.box U U U λp2=>S.dd<|D.al z72 U U U λp4=>S.dd<|D.al z27 U U U λp5=>Q.nt<|Q.rg<|S.qu (Z.bd [0] dh U U U U U U)<|S.dd<|D.al z27 U U U λp6=>S.s<|D.st 0 ay U U U U U U U U λ_=>Q.nt<|S.sq<|Q.rg<|Q.mv U<|Q.bi U U U<|Q.nt<|S.cT U (cZ (by omega))<|S.rg<|Q.fa eO U<|S.s<|D.st 0 bC U U U U U U U U λ_=>Q.nt<|Q.rg<|Q.fa bB U<|Q.lc 3 bC U U U<|S.qu (Z.add (r:=((p+1:Nat):Int)) U U (IntWalk.i64_in _ (by omega)))<|Q.fa bB U<|S.s<|D.st 3 bC U U U U U U U U λ_=>Q.nt<|Q.rg<|S.qu (Z.bg 3 aF U U U)<|S.qu (Z.call U U (λH=>hb0 H))<|S.s<|D.st 3 aF U U U U U U U U λ_=>Q.nt<|S.sq<|Q.rg<|S.qu (Z.bg 3 aF U U U)<|Q.mv U<|S.qu (Z.tT (Z.call U U (λH=>hi c 125 H)) hn)<|Q.nt<|S.cT U U<|Q.rg<|Q.fa bB U<|Q.lc 3 bC U U U<|S.qu (Z.add (r:=((c+1:Nat):Int)) U U (IntWalk.i64_in _ (by omega)))<|Q.fa bB U<|S.s<|D.st 3 bC U U U U U U U U λ_=>Q.nt<|S.sq<|?_
  refine' UW.gF (by kernel_rfl) [0] [0,0,1,7] [some 28,some 29,none,none] [some (28,_),some (29,_),none,none] [2,3] [0] U (by decide) (by decide) (I.held (by decide) U U ?jK (I.kept (by decide) U U ?jL (I.skip (I.skip I.nil)))) ?u7
  case jK=>exact Z.bg 3 aF rfl rfl rfl
  case jL=>(intro _ hK;exact Z.kw 0 hK ay rfl rfl rfl)
  refine CH.aV U U ?_ (.c 0 U .n)
  refine D.st 2 aF U U U U U U U U λ_=>?_
  refine CH.aV U U ?_ (.c 0 U .n)
  refine D.st 1 ay U U U U U U U U λ_=>?_
  refine CH.nil ?_ (.c 0 U .n)
  simp only[app,bV]
  refine UQ.then<|UW.ret<|UQ.aj<|?_
  refine S.rt (λhd=>ax U (av (k:=2) hd U U fM fO) (av (k:=1) hd U U bH bI)) ⟨rfl,rfl⟩
 |false=>
  rw[if_neg (show ¬bT s c (jY true)=true fromλh=>by rw[show bT s c (jY true)=false from hn] at h;cases h)]
  generalize hR:dP s f c d true (qP true)=R
  refine aA (n:=71) (H0:=H) (M:=[]) Tryz.func63 (by kernel_rfl) U (by rw[Tryz.ntmps63];rfl) .nil<|?_
  refine Q.rg<|S.dd<|D.box U U U λp2=>S.dd<|D.al z72 U U U λp4=>S.dd<|D.al z27 U U U λp5=>Q.nt<|Q.rg<|S.qu (Z.bd [0] dh U U U U U U)<|S.dd<|D.al z27 U U U λp6=>S.s<|D.st 0 ay U U U U U U U U λ_=>Q.nt<|S.sq<|Q.rg<|Q.mv U<|Q.bi U U U<|Q.nt<|S.cT U (cZ (by omega))<|S.rg<|Q.fa eO U<|S.s<|D.st 0 bC U U U U U U U U λ_=>Q.nt<|Q.rg<|Q.fa bB U<|Q.lc 3 bC U U U<|S.qu (Z.add (r:=((p+1:Nat):Int)) U U (IntWalk.i64_in _ (by omega)))<|Q.fa bB U<|S.s<|D.st 3 bC U U U U U U U U λ_=>Q.nt<|Q.rg<|S.qu (Z.bg 3 aF U U U)<|S.qu (Z.call U U (λH=>hb0 H))<|S.s<|D.st 3 aF U U U U U U U U λ_=>Q.nt<|S.sq<|Q.rg<|S.qu (Z.bg 3 aF U U U)<|Q.mv U<|S.qu (Z.tF (Z.call U U (λH=>hi c 125 H)) hn)<|Q.nt<|S.cF U U<|UW.skip<|UQ.then<|S.sq<|UW.block<|?_
  have hI0:Ik s p d f true R f c (qP true) 0:=⟨h2,Nat.le_refl _,λ_=>⟨hR,by omega,Kept.new _ _,by omega⟩,λh=>absurd U h⟩
  refine S.loop (λj:Nat×Nat×V×Int=>[(6,.ptr p6 0),(5,.ptr p5 0),(4,.ptr p4 0),(2,.ptr p2 0),(1,.v (.int .u8 125))]) (λj=>[(p6,.box 27 (aN j.2.2.1)),(p5,.box 27 (aN zeroV)),(p4,.box 72 [.v (.string ⟨#[]⟩),.v (.int .i64 0),.v (.int .i64 0),.v (.int .i64 0)]),(p2,.box 72 (tq s j.2.1 j.2.2.2 d))]) (λj=>Ik s p d f true R j.1 j.2.1 j.2.2.1 j.2.2.2) (λj=>j.1) (f,c,qP true,0) hI0 ⟨rfl,rfl,rfl,rfl,rfl,trivial⟩ (.refl _)<|?_
  rintro⟨g,q,v,e⟩ ⟨hq,hg,hgo,Ku⟩
  dsimp only at hq hg hgo Ku⊢
  by_cases he:e=0
  ·subst he
   obtain⟨hl,hpq,hk,hfu⟩:=hgo rfl
   clear hgo Ku
   obtain⟨g,rfl⟩:∃g',g=g'+2:=⟨g-2,by omega⟩
   have hfl:=(xg s (g+1)).2.2.2 q d v
   have hpr:=Kr s q d g hs hq v hk (λr=>hfl r hq (by omega)) (λp' h3 h4=>hV g (by omega) p' (by omega) h4 (by omega))
   rw[dP,if_pos U] at hl
   cases hr:gM s (g+1) q d v with
   |err e1 q1=>
    rw[hr] at hl hpr
    dsimp only[Wj] at hl hpr
    have he1:e1≠0:=λh=>hfl q1 hq (by omega) (by rw[hr,h])
    subst hl
    have hle1:q1<=s.size:=(FO s (g+1)).2.2.2 _ _ _ _ _ hq hr
    have hI1:Ik s p d f true (.err e1 q1) (g+1) q1 v e1:=⟨hle1,by omega,λh=>absurd h he1,λ_=>rfl⟩
    refine S.sq<|Q.rg<|Q.fa dz U<|Q.lc 3 bC U U U<|Q.bi U U U<|Q.nt<|S.cT U (cZ (by omega))<|UW.skip<|UQ.then<|UW.block<|S.sq<|Q.rg<|Q.mv U<|Q.bi U U U<|Q.nt<|S.cT U (cZ (by omega))<|Q.rg<|S.qu (Z.bg 3 aF U U U)<|S.qu (Z.bg 0 ay U U (ak _))<|S.qu (Z.call U U (λH=>hpr H))<|Q.mv U<|S.qu (Z.ex U U)<|S.qu (Z.ex U U)<|S.dd<|D.al z72 U U U λp7=>S.dd<|D.al z27 U U U λp8=>S.s<|D.st 1 aF U U U U U U U U λ_=>S.s<|D.l8 0 ay U U U U (by exact aH _) (ak _) U U λ_=>?_
    refine Q.nt<|Q.rg<|S.qu (Z.bg 1 aF U U U)<|S.s<|D.st 5 aF U U U U U U U U λ_=>Q.nt<|S.rg<|S.qu (Z.bg 0 ay U U (ak _))<|S.s<|D.l8 2 ay U U U U (by exact aH _) (ak _) (ak _) U λ_=>?_
    refine Q.nt<|Q.rg<|S.qu (Z.bg 5 aF U U U)<|S.qu (Z.call U U (λH=>fq s q1 d e1 he1 H))<|S.s<|D.st 5 aF U U U U U U U U λ_=>Q.nt<|S.sq<|Q.rg<|S.qu (Z.bg 5 aF U U U)<|Q.mv U<|S.qu (Z.tF (Z.call U U (λH=>AQ s q1 d e1 he1 125 H)) U)<|Q.nt<|S.cF U U<|UW.skip<|UQ.then<|S.rg<|S.qu (Z.bg 5 aF U U U)<|S.qu (Z.call U U (λH=>uV s q1 d e1 he1 44 H))<|S.qu (Z.call U U (λH=>fq s q1 d e1 he1 H))<|S.s<|D.st 5 aF U U U U U U U U λ_=>US.nil<|UQ.aI<|?_
    refine S.back (g+1,q1,v,e1) ⟨rfl,rfl,rfl,rfl,rfl,trivial⟩ (by repeat (first|exact List.Sublist.refl _|exact List.nil_sublist _|refine .cons_cons _ ?_|refine .cons _ ?_)) (by omega) (by omega)
   |ok q1 w=>
    obtain⟨hq1,hq2⟩:=(kM s (g+1)).2.2.2 _ _ _ _ _ hq hr
    have hkw:=(xw s hs (g+1)).2.2.2 _ _ _ _ _ hq hk hr
    rw[hr] at hl hpr
    dsimp only[Wj] at hl hpr
    have hb1:∀H,F Tryz.prog 42 [.agg (dZ s q1 d)] H (bn H (.agg (dZ s (aC s q1) d))):=λH=>dF s q1 d hs (by omega) H
    have h3:=bu s q1
    have h4:=aX s q1 hq2
    generalize aC s q1=c1 at*
    cases hn1:bT s c1 125 with
    |true=>
     rw[if_pos (show bT s c1 (jY true)=true from hn1)] at hl
     subst hl
     have hlt:=bP hn1
     refine S.sq<|Q.rg<|Q.fa dz U<|Q.lc 3 bC U U U<|Q.bi U U U<|Q.nt<|S.cT U (cZ (by omega))<|UW.skip<|UQ.then<|UW.block<|S.sq<|Q.rg<|Q.mv U<|Q.bi U U U<|Q.nt<|S.cT U (cZ (by omega))<|Q.rg<|S.qu (Z.bg 3 aF U U U)<|S.qu (Z.bg 0 ay U U (ak _))<|S.qu (Z.call U U (λH=>hpr H))<|Q.mv U<|S.qu (Z.ex U U)<|S.qu (Z.ex U U)<|S.dd<|D.al z72 U U U λp7=>S.dd<|D.al z27 U U U λp8=>S.s<|D.st 1 aF U U U U U U U U λ_=>S.s<|D.l8 0 ay U U U U (by exact aH _) (ak _) U U λ_=>?_
     refine Q.nt<|Q.rg<|S.qu (Z.bg 1 aF U U U)<|S.s<|D.st 5 aF U U U U U U U U λ_=>Q.nt<|S.rg<|S.qu (Z.bg 0 ay U U (ak _))<|S.s<|D.l8 2 ay U U U U (by exact aH _) (ak _) (ak _) U λ_=>?_
     refine Q.nt<|Q.rg<|S.qu (Z.bg 5 aF U U U)<|S.qu (Z.call U U (λH=>hb1 H))<|S.s<|D.st 5 aF U U U U U U U U λ_=>Q.nt<|S.sq<|Q.rg<|S.qu (Z.bg 5 aF U U U)<|Q.mv U<|S.qu (Z.tT (Z.call U U (λH=>hi c1 125 H)) hn1)<|Q.nt<|S.cT U U<|Q.rg<|Q.fa bB U<|Q.lc 5 bC U U U<|S.qu (Z.add (r:=((c1+1:Nat):Int)) U U (IntWalk.i64_in _ (by omega)))<|Q.fa bB U<|S.s<|D.st 5 bC U U U U U U U U λ_=>Q.nt<|S.sq<|?_
     refine' UW.gF (by kernel_rfl) [2] [0,0,1,7] [some 64,some 65,none,none] [some (64,_),some (65,_),none,none] [2,3] [0] U (by decide) (by decide) (I.held (by decide) U U ?ic (I.kept (by decide) U U ?ig (I.skip (I.skip I.nil)))) ?oF
     case ic=>exact Z.bg 5 aF rfl rfl rfl
     case ig=>(intro _ hK;exact Z.kw 0 hK ay rfl rfl (ak _))
     refine CH.aV U U ?_ (.c 2 U .n)
     refine D.st 4 aF U U U U U U U U λ_=>?_
     refine CH.aV U U ?_ (.c 2 U .n)
     refine D.l8 3 ay U U U U (by exact aH _) (ak _) U U λ_=>?_
     refine CH.nil ?_ (.c 2 U .n)
     simp only[app,bV]
     refine UQ.then<|UW.ret<|UQ.aj<|UQ.az<|UQ.aj<|UQ.az<|UQ.aj<|?_
     cases w
     refine S.rt (λhd=>ax U (av (k:=4) hd U U fM fO) (av (k:=3) hd U U bH bI)) ⟨rfl,rfl⟩
    |false=>
     rw[if_neg (show ¬bT s c1 (jY true)=true fromλh=>by rw[show bT s c1 (jY true)=false from hn1] at h;cases h)] at hl
     have hne:=mY s c1 d 44 hs (by omega)
     cases hn2:bT s c1 44 with
     |true=>
      rw[if_pos hn2] at hl
      rw[hn2,if_pos U] at hne
      have hlt:=bP hn2
      have hb2:∀H,F Tryz.prog 42 [.agg (dZ s (c1+1) d)] H (bn H (.agg (dZ s (aC s (c1+1)) d))):=λH=>dF s (c1+1) d hs (by omega) H
      have h5:=bu s (c1+1)
      have h6:=aX s (c1+1) (by omega)
      generalize aC s (c1+1)=c2 at*
      have hI2:Ik s p d f true R (g+1) c2 w 0:=⟨h6,by omega,λ_=>⟨hl,by omega,hkw.mono (by omega),by omega⟩,λh=>absurd U h⟩
      refine S.sq<|Q.rg<|Q.fa dz U<|Q.lc 3 bC U U U<|Q.bi U U U<|Q.nt<|S.cT U (cZ (by omega))<|UW.skip<|UQ.then<|UW.block<|S.sq<|Q.rg<|Q.mv U<|Q.bi U U U<|Q.nt<|S.cT U (cZ (by omega))<|Q.rg<|S.qu (Z.bg 3 aF U U U)<|S.qu (Z.bg 0 ay U U (ak _))<|S.qu (Z.call U U (λH=>hpr H))<|Q.mv U<|S.qu (Z.ex U U)<|S.qu (Z.ex U U)<|S.dd<|D.al z72 U U U λp7=>S.dd<|D.al z27 U U U λp8=>S.s<|D.st 1 aF U U U U U U U U λ_=>S.s<|D.l8 0 ay U U U U (by exact aH _) (ak _) U U λ_=>?_
      refine Q.nt<|Q.rg<|S.qu (Z.bg 1 aF U U U)<|S.s<|D.st 5 aF U U U U U U U U λ_=>Q.nt<|S.rg<|S.qu (Z.bg 0 ay U U (ak _))<|S.s<|D.l8 2 ay U U U U (by exact aH _) (ak _) (ak _) U λ_=>?_
      refine Q.nt<|Q.rg<|S.qu (Z.bg 5 aF U U U)<|S.qu (Z.call U U (λH=>hb1 H))<|S.s<|D.st 5 aF U U U U U U U U λ_=>Q.nt<|S.sq<|Q.rg<|S.qu (Z.bg 5 aF U U U)<|Q.mv U<|S.qu (Z.tF (Z.call U U (λH=>hi c1 125 H)) hn1)<|Q.nt<|S.cF U U<|UW.skip<|UQ.then<|S.rg<|S.qu (Z.bg 5 aF U U U)<|S.qu (Z.call U U (λH=>hne H))<|S.qu (Z.call U U (λH=>hb2 H))<|S.s<|D.st 5 aF U U U U U U U U λ_=>US.nil<|UQ.aI<|?_
      refine S.back (g+1,c2,w,0) ⟨rfl,rfl,rfl,rfl,rfl,trivial⟩ (by repeat (first|exact List.Sublist.refl _|exact List.nil_sublist _|refine .cons_cons _ ?_|refine .cons _ ?_)) (by omega) (by omega)
     |false=>
      rw[if_neg (by rw[hn2];decide)] at hl
      rw[hn2,if_neg (by decide)] at hne
      have h11:(11:Int)≠0:=by decide
      have hI3:Ik s p d f true R (g+1) c1 w 11:=⟨h4,by omega,λh=>absurd h h11,λ_=>hl.symm⟩
      refine S.sq<|Q.rg<|Q.fa dz U<|Q.lc 3 bC U U U<|Q.bi U U U<|Q.nt<|S.cT U (cZ (by omega))<|UW.skip<|UQ.then<|UW.block<|S.sq<|Q.rg<|Q.mv U<|Q.bi U U U<|Q.nt<|S.cT U (cZ (by omega))<|Q.rg<|S.qu (Z.bg 3 aF U U U)<|S.qu (Z.bg 0 ay U U (ak _))<|S.qu (Z.call U U (λH=>hpr H))<|Q.mv U<|S.qu (Z.ex U U)<|S.qu (Z.ex U U)<|S.dd<|D.al z72 U U U λp7=>S.dd<|D.al z27 U U U λp8=>S.s<|D.st 1 aF U U U U U U U U λ_=>S.s<|D.l8 0 ay U U U U (by exact aH _) (ak _) U U λ_=>?_
      refine Q.nt<|Q.rg<|S.qu (Z.bg 1 aF U U U)<|S.s<|D.st 5 aF U U U U U U U U λ_=>Q.nt<|S.rg<|S.qu (Z.bg 0 ay U U (ak _))<|S.s<|D.l8 2 ay U U U U (by exact aH _) (ak _) (ak _) U λ_=>?_
      refine Q.nt<|Q.rg<|S.qu (Z.bg 5 aF U U U)<|S.qu (Z.call U U (λH=>hb1 H))<|S.s<|D.st 5 aF U U U U U U U U λ_=>Q.nt<|S.sq<|Q.rg<|S.qu (Z.bg 5 aF U U U)<|Q.mv U<|S.qu (Z.tF (Z.call U U (λH=>hi c1 125 H)) hn1)<|Q.nt<|S.cF U U<|UW.skip<|UQ.then<|S.rg<|S.qu (Z.bg 5 aF U U U)<|S.qu (Z.call U U (λH=>hne H))<|S.qu (Z.call U U (λH=>fq s c1 d 11 h11 H))<|S.s<|D.st 5 aF U U U U U U U U λ_=>US.nil<|UQ.aI<|?_
      refine S.back (g+1,c1,w,11) ⟨rfl,rfl,rfl,rfl,rfl,trivial⟩ (by repeat (first|exact List.Sublist.refl _|exact List.nil_sublist _|refine .cons_cons _ ?_|refine .cons _ ?_)) (by omega) (by omega)
  ·have hR2:=Ku he
   subst hR2
   refine S.sq<|Q.rg<|Q.fa dz U<|Q.lc 3 bC U U U<|Q.bi U U U<|Q.nt<|S.cF U (bf (by omega))<|UW.exit<|UQ.pass<|UQ.pass<|UQ.here<|UQ.then<|S.sq<|?_
   refine' UW.gF (by kernel_rfl) [0] [0,0,1,7] [some 69,some 70,none,none] [some (69,_),some (70,_),none,none] [2,3] [0] U (by decide) (by decide) (I.held (by decide) U U ?jH (I.kept (by decide) U U ?jI (I.skip (I.skip I.nil)))) ?uC
   case jH=>exact Z.bg 3 aF rfl rfl rfl
   case jI=>(intro _ hK;exact Z.kw 0 hK ay rfl rfl (ak _))
   refine CH.aV U U ?_ (.c 0 U .n)
   refine D.st 2 aF U U U U U U U U λ_=>?_
   refine CH.aV U U ?_ (.c 0 U .n)
   refine D.l8 1 ay U U U U (by exact aH _) (ak _) U U λ_=>?_
   refine CH.nil ?_ (.c 0 U .n)
   simp only[app,bV]
   refine UQ.then<|UW.ret<|?_
   cases v
   refine S.rt (λhd=>ax U (av (k:=2) hd U U fM fO) (av (k:=1) hd U U bH bI)) ⟨rfl,_,rfl⟩
end Go.Proofs.YtbooeongacgnbaaGreatDoor
end
