/- A part of the proof. -/
import Derived.Test.YtonpfomjoiaacaaGreatDoorMw33
set_option maxRecDepth 100000
set_option maxHeartbeats 4000000
set_option linter.unusedSectionVars false
set_option linter.unusedVariables false
set_option linter.unusedSimpArgs false
section
namespace Go.Proofs.YtonpfomjoiaacaaGreatDoor
open Go Go.iG Go.RowKit
def Rj:ByteArray:=⟨#[97,98,99,100,101,102,103,104,105,106,107,108,109,110,111,112,113,114,115,116,117,118,119,120,121,122,48,49,50,51,52,53,54,55,56,57,46,45]⟩
def moreS:ByteArray:=⟨#[97,98,99,100,101,102,103,104,105,106,107,108,109,110,111,112,113,114,115,116,117,118,119,120,121,122,48,49,50,51,52,53,54,55,56,57,46,45,95,61,47]⟩
def lV:ByteArray:=⟨#[58]⟩
theorem yS(s:ByteArray)(c:Int)(H:Hp):au Tryz.prog 224 [.v (.string s),.v (.int .u8 c)] H (bB H (.v (.int .i64 (Lib.indexByte s.data.toList c.toNat.toUInt8)))):=
 au.wM ⟨_,Tryz.func224,by kernel_rfl,by kernel_rfl⟩ λρ w vals hh hr=>by
  obtain⟨hl,hr⟩:=hr
  match vals,hl,hr with
  |[a,b],hl,hr=>
   have e1:=aV (hr 0 _ _ U U)
   have e2:=aV (hr 1 _ _ U U)
   subst e1 e2
   refine(Tryz.stringslite_IndexByte s c w).mono<|?_
   rintro e w' ⟨he,rfl⟩
   exact⟨he,Below.refl _ _⟩
theorem Md(s:ByteArray)(c:Int)(H:Hp):au Tryz.prog 185 [.v (.string s),.v (.int .u8 c)] H (bB H (.v (.int .i64 (Lib.indexByte s.data.toList c.toNat.toUInt8)))):=by
 refine aF (n:=8) (H0:=H) (I:=[]) Tryz.func185 (by kernel_rfl) U (by rw[Tryz.ntmps185];rfl) .nil<|?_
 refine Q.rg<|Q.as U<|Q.nt<|Q.rg<|Q.mv U<|Q.mv U<|S.qu (Z.call U U (λH=>yS s c H))<|Q.as U<|Q.nt<|UW.ret<|S.bH (λ_=>ak U U)<|?_
 rfl
theorem WU(bs:ByteArray)(p:Nat)(r:Int)(h0:0<=r)(h1:r<=122)(hi:0<=Lib.indexByte bs.data.toList r.toNat.toUInt8)(H:Hp)(hp:H p=some (.box 9 [.v (.string bs)])):au Tryz.prog 184 [.v (.int .i32 r),.ptr p 0] H (bB H (.v (.bool false))):=by
 have hb:=Md bs r
 generalize Lib.indexByte bs.data.toList r.toNat.toUInt8=q at*
 have hq:decide (q<0)=false:=decide_eq_false (by omega)
 refine aF (n:=13) (H0:=H) (I:=[]) Tryz.func184 (by kernel_rfl) U (by rw[Tryz.ntmps184];rfl) .nil<|?_
 refine Q.rg<|Q.as U<|Q.nt<|Q.rg<|Q.mv U<|Q.bi U U U<|Q.mv U<|?_
 refine S.tD 6 (λhc6=>?_) (λhc6=>?_)
 omega
 refine Q.on (Z.ldo (by assumption) dW U U)<|?_
 refine Q.on (Z.mv U)<|Q.on (Z.cv (r:=r) Tryz.underlying5 U (IntWalk.u8_in _ (by omega)) (by kernel_rfl))<|Q.on (Z.call U U (λH=>hb H))<|Q.on (Z.eq (u':=.v (.bool false)) (Z.bi U U U) (by rw[hq]))<|?_
 refine Q.pk U U<|Q.as U<|Q.nt<|UW.ret<|S.bH (λ_=>ak U U)<|?_
 rfl
theorem Me(r:Int)(h0:0<=r)(h1:r<128)(f:Nat)(df:List AV)(H:Hp)(hf:∀H',Sub H H'->au Tryz.prog f ([.v (.int .i32 r)]++df) H' (bB H' (.v (.bool false)))):au Tryz.prog 225 [.v (.string (aN r)),.iF f df,.v (.bool true)] H (bB H (.v (.int .i64 (-1)))):=by
 have hz:(aN r).size=1:=rfl
 have hb:eO (aN r) ((0:Nat):Int)=r:=tZ (by omega)
 obtain⟨hd1,hd2⟩:=JB (aN r) 0 (by omega) (by omega)
 rw[hb] at hd1
 generalize aN r=s at*
 refine aF (n:=21) (H0:=H) (I:=[]) Tryz.func225 (by kernel_rfl) U (by rw[Tryz.ntmps225];rfl) .nil<|?_
 refine Q.rg<|Q.as U<|Q.nt<|S.sq<|Q.rg<|Q.mv U<|S.dd<|D.rg Tryz.underlying9 U λTt=>Q.nt<|UW.block<|S.loop (λi:Nat=>[(10,.ptr Tt 0),(1,.iF f df),(2,.v (.bool true))]) (λi=>[(Tt,.iter s i)]) (λi=>i<=1) (λi=>1-i) 0 (Nat.zero_le _) ⟨rfl,rfl,rfl,trivial⟩ (.refl _)<|?_
 intro i hi
 by_cases h:i<1
 ·obtain rfl:i=0:=by omega
  refine Q.rg<|S.dd<|D.nx 0 U U (by omega) U<|?_
  rw[hd2]
  refine S.qu (Z.ex U U)<|Q.nt<|S.sq<|S.cT U U<|UW.skip<|UQ.then<|UW.block<|Q.rg<|S.qu (Z.ex U U)<|S.qu (Z.eq (u':=.v (.int .i32 r)) (Z.ex U U) (by rw[hd1]))<|?_
  refine Q.as U<|Q.as U<|Q.nt<|Q.rg<|Q.mv U<|Q.mv U<|S.qu (Z.oV U U (λhd=>hf _ (o9 hd)))<|Q.mv U<|S.qu (Z.beq Tryz.underlying4 U U)<|Q.nt<|?_
  refine S.cE U (λhc19=>?_) (λhc19=>?_)
  contradiction
  refine UW.skip<|UQ.aB<|?_
  refine S.back 1 ⟨rfl,rfl,rfl,trivial⟩ (.refl _) (by omega) (by omega)
 ·obtain rfl:i=1:=by omega
  refine Q.rg<|S.dd<|D.nxo 0 U U (by omega)<|S.qu (Z.ex U U)<|Q.nt<|S.sq<|S.cF U U<|UW.exit<|UQ.pass<|UQ.pass<|UQ.here<|UQ.then<|Q.rg<|Q.as U<|Q.nt<|UW.ret<|S.bH (λ_=>ak U U)<|?_
  rfl
theorem HZ(r:Int)(h0:0<=r)(h1:r<128)(f:Nat)(df:List AV)(H:Hp)(hf:∀H',Sub H H'->au Tryz.prog f ([.v (.int .i32 r)]++df) H' (bB H' (.v (.bool false)))):au Tryz.prog 186 [.v (.string (aN r)),.iF f df] H (bB H (.v (.int .i64 (-1)))):=by
 have h:=λH' (hs:Sub H H')=>Me r h0 h1 f df H' (λH'' (hs2:Sub H' H'')=>hf H'' (λi o hi=>hs2 _ _ (hs i o hi)))
 generalize aN r=s at*
 refine aF (n:=8) (H0:=H) (I:=[]) Tryz.func186 (by kernel_rfl) U (by rw[Tryz.ntmps186];rfl) .nil<|?_
 refine Q.rg<|Q.as U<|Q.nt<|Q.rg<|Q.mv U<|Q.mv U<|S.qu (Z.oV U U (λhd=>h _ (o9 hd)))<|Q.as U<|Q.nt<|UW.ret<|S.bH (λ_=>ak U U)<|?_
 rfl
theorem SA(bs:ByteArray)(r:Int)(h0:0<=r)(h1:r<=122)(hi:0<=Lib.indexByte bs.data.toList r.toNat.toUInt8)(H:Hp):au Tryz.prog 137 [.v (.string (aN r)),.v (.string bs)] H (bB H (.v (.bool true))):=by
 have hz:(aN r).size=1:=rfl
 have hne:((aN r).toList==(⟨#[]⟩:ByteArray).toList)=false:=by rw[pU];rfl
 have hx:=λp H hp=>HZ r h0 (by omega) 184 [.ptr p 0] H (λH' hs=>WU bs p r h0 h1 hi H' (hs _ _ hp))
 generalize aN r=s at*
 refine aF (n:=20) (H0:=H) (I:=[]) Tryz.func137 (by kernel_rfl) U (by rw[Tryz.ntmps137];rfl) .nil<|?_
 focus
  refine Q.rg<|S.dd<|D.box U U U λp3=>Q.as U<|Q.nt<|Q.rg<|S.qu (Z.mf U)<|Q.as U<|Q.nt<|Q.rg<|Q.mv U<|S.qu (Z.eq (u':=.v (.bool true)) (Z.bs U U U) (congrArg (λb=>AV.v (.bool (!b))) hne))<|Q.mv U<|Q.on (Z.mv U)<|Q.on (Z.wm Tryz.underlying9 U)<|Q.on (Z.bi U U U)<|Q.pk U U<|Q.mv U<|?_
  refine S.tD 14 (λVq=>?_) (λVq=>?_)
  rotate_left
  omega
  refine Q.on (Z.mv U)<|Q.on (Z.mv U)<|Q.on (Z.oV U U (λhd=>hx p3 _ (hd.at_ (k:=0) U)))<|Q.on (Z.bi U U U)<|Q.pk U U<|Q.as U<|Q.nt<|UW.ret<|S.bH (λ_=>ak U U)<|?_
  rfl
theorem Us(r:Int)(h0:0<=r)(h1:r<=122)(hi:0<=Lib.indexByte Rj.data.toList r.toNat.toUInt8)(H:Hp):au Tryz.prog 138 [.v (.string (aN r))] H (bB H (.v (.bool true))):=by
 have h:=SA Rj r h0 h1 hi
 generalize aN r=s at*
 refine aF (n:=5) (H0:=H) (I:=[]) Tryz.func138 (by kernel_rfl) U (by rw[Tryz.ntmps138];rfl) .nil<|?_
 refine Q.rg<|Q.as U<|Q.nt<|Q.rg<|Q.mv U<|S.qu (Z.call U U (λH=>h H))<|Q.as U<|Q.nt<|UW.ret<|S.bH (λ_=>ak U U)<|?_
 rfl
theorem DL(s:ByteArray)(hs:s.size≠1)(H:Hp):au Tryz.prog 223 [.v (.string s),.v (.string lV)] H (bB H (.v (.int .i64 (Lib.indexByte s.data.toList 58)))):=by
 have hz:lV.size=1:=rfl
 have hne:(lV.toList==s.toList)=false:=by
  cases h:(lV.toList==s.toList) with
  |false=>rfl
  |true=>exact absurd (by rw[<-gI (eq_of_beq h)];rfl) hs
 have hc:eO lV ((0:Nat):Int)=58:=by kernel_rfl
 have hi:∀H,au Tryz.prog 224 [.v (.string s),.v (.int .u8 58)] H (bB H (.v (.int .i64 (Lib.indexByte s.data.toList 58)))):=λH=>yS s 58 H
 generalize lV=B at*
 refine aF (n:=143) (H0:=H) (I:=[]) Tryz.func223 (by kernel_rfl) U (by rw[Tryz.ntmps223];rfl) .nil<|?_
 refine Q.rg<|Q.as U<|Q.nt<|Q.rg<|Q.mv U<|S.qu (Z.wm Tryz.underlying9 U)<|Q.as U<|Q.nt<|S.sq<|UW.block<|Q.rg<|Q.mv U<|Q.bi U U U<|Q.mv U<|?_
 refine S.tE 19 (λhc19=>?_) (λhc19=>?_)
 omega
 refine Q.on (Z.mv U)<|Q.on (Z.mv U)<|Q.on (Z.eq (u':=.v (.bool false)) (Z.bs U U U) (by rw[hne]))<|?_
 refine Q.pk U U<|Q.as U<|Q.nt<|S.cF U U<|Q.rg<|Q.mv U<|Q.bi U U U<|Q.as U<|Q.nt<|S.cT U (jP (by omega))<|Q.rg<|Q.mv U<|Q.mv U<|S.qu (Z.eq (u':=.v (.int .u8 58)) (Z.is (p:=B) Tryz.underlying9 U U (by omega) (by omega)) (by rw[<-hc];rfl))<|?_
 refine S.qu (Z.call U U (λH=>hi H))<|Q.as U<|Q.nt<|UW.ret<|UQ.aI<|UQ.ax<|S.bH (λ_=>ak U U)<|?_
 rfl
theorem Ut(s a b:ByteArray)(k:Nat)(hs:s.size≠1)(hk:Lib.indexByte s.data.toList 58=(k:Int))(hl:k+1<=s.size)(ha:s.extract 0 k=a)(hb:s.extract (k+1) s.size=b)(hz:s.size<=1000)(H:Hp):au Tryz.prog 183 [.v (.string s),.v (.string lV)] H (bB H (.kX [.v (.string a),.v (.string b),.v (.bool true)])):=by
 have hz2:lV.size=1:=rfl
 have hi:=DL s hs
 rw[hk] at hi
 generalize lV=B at*
 refine aF (n:=23) (H0:=H) (I:=[]) Tryz.func183 (by kernel_rfl) U (by rw[Tryz.ntmps183];rfl) .nil<|?_
 refine Q.rg<|Q.as U<|Q.as U<|Q.as U<|Q.nt<|S.sq<|Q.rg<|Q.mv U<|Q.mv U<|S.qu (Z.call U U (λH=>hi H))<|Q.as U<|Q.nt<|Q.rg<|Q.mv U<|Q.bi U U U<|Q.nt<|S.cT U (decide_eq_true (by omega))<|S.sq<|?_
 refine' UW.bG (by kernel_rfl) [0,0,3,0,0,0,32,112,248,7,1023,2047] [some 13,some 14,some 15,some 16,some 17,some 18,some 19,some 20,some 21,some 4,some 5,some 6] [some (13,_),some (14,_),some (15,_),some (16,_),some (17,_),some (18,_),some (19,_),some (20,_),some (21,_),some (4,_),some (5,_),some (6,_)] [] [] U (by decide) (by decide) (M.free (by decide) U U ?FR (M.free (by decide) U U ?FT (M.free (by decide) U U ?FU (M.free (by decide) U U ?FV (M.free (by decide) U U ?FW (M.free (by decide) U U ?FX (M.free (by decide) U U ?FY (M.free (by decide) U U ?FZ (M.free (by decide) U U ?F3 (M.free (by decide) U U ?F4 (M.free (by decide) U U ?K6 (M.free (by decide) U U ?K7 M.nil)))))))))))) ?VJ
 case FR=>(intro _;exact Z.mv rfl)
 case FT=>(intro _;exact Z.mv rfl)
 case FU=>(intro _;exact Z.eq (u':=.v (.string a)) (Z.slt (p:=s) (m:=0) (m':=k) Tryz.underlying9 rfl (.hi (a:=k) rfl) (by omega) (by omega)) (by rw[ha]))
 case FV=>(intro _;exact Z.mv rfl)
 case FW=>(intro _;exact Z.mv rfl)
 case FX=>(intro _;exact Z.mv rfl)
 case FY=>(intro _;exact Z.wm Tryz.underlying9 rfl)
 case FZ=>(intro _;exact Z.add (r:=((k+1:Nat):Int)) rfl rfl (by rw[hz2,IntWalk.i64_in _ (by omega)];rfl))
 case F3=>(intro _;exact Z.eq (u':=.v (.string b)) (Z.slt (p:=s) (m:=k+1) (m':=s.size) Tryz.underlying9 rfl (.lo (a:=k+1) rfl) (by omega) (by omega)) (by rw[hb]))
 case F4=>(intro _;exact Z.as rfl)
 case K6=>(intro _;exact Z.as rfl)
 case K7=>(intro _;exact Z.as rfl)
 refine CH.nil<|?_
 simp only[app,bS]
 refine UQ.then<|UW.ret<|UQ.ax<|S.bH (λhd=>ES U (by decide) U (jE (bJ U) (jE (bJ U) (jE (bJ U) (Cb)))))<|?_
 rfl
theorem aaC(H:Hp):au Tryz.prog 183 [.v (.string ⟨#[]⟩),.v (.string lV)] H (bB H (.kX [.v (.string ⟨#[]⟩),.v (.string ⟨#[]⟩),.v (.bool false)])):=by
 have hi:∀H,au Tryz.prog 223 [.v (.string ⟨#[]⟩),.v (.string lV)] H (bB H (.v (.int .i64 (-1)))):=λH=>DL ⟨#[]⟩ (by decide) H
 generalize lV=B at*
 refine aF (n:=23) (H0:=H) (I:=[]) Tryz.func183 (by kernel_rfl) U (by rw[Tryz.ntmps183];rfl) .nil<|?_
 refine Q.rg<|Q.as U<|Q.as U<|Q.as U<|Q.nt<|S.sq<|Q.rg<|Q.mv U<|Q.mv U<|S.qu (Z.call U U (λH=>hi H))<|Q.as U<|Q.nt<|Q.rg<|Q.mv U<|Q.bi U U U<|Q.nt<|S.cF U (decide_eq_false (by omega))<|UW.skip<|UQ.then<|Q.rg<|Q.mv U<|Q.as U<|Q.as U<|Q.as U<|Q.nt<|UW.ret<|S.bH (λhd=>ES U (by decide) U (jE (bJ U) (jE (bJ U) (jE (bJ U) (Cb)))))<|?_
 rfl
theorem JD(s a b:ByteArray)(ok:Bool)(h:∀H,au Tryz.prog 183 [.v (.string s),.v (.string lV)] H (bB H (.kX [.v (.string a),.v (.string b),.v (.bool ok)])))(H:Hp):au Tryz.prog 136 [.v (.string s),.v (.string lV)] H (bB H (.kX [.v (.string a),.v (.string b),.v (.bool ok)])):=by
 generalize lV=B at*
 refine aF (n:=13) (H0:=H) (I:=[]) Tryz.func136 (by kernel_rfl) U (by rw[Tryz.ntmps136];rfl) .nil<|?_
 refine Q.rg<|Q.as U<|Q.as U<|Q.as U<|Q.nt<|Q.rg<|Q.mv U<|Q.mv U<|S.qu (Z.call U U (λH=>h H))<|S.qu (Z.ex U U)<|S.qu (Z.ex U U)<|S.qu (Z.ex U U)<|Q.as U<|Q.as U<|Q.as U<|Q.nt<|UW.ret<|S.bH (λhd=>ES U (by decide) U (jE (bJ U) (jE (bJ U) (jE (bJ U) (Cb)))))<|?_
 rfl
theorem nT(x y:Int)(g:Int)(hg:0<=g/\g<256)(hx:0<=x/\x<=122)(hx2:x≠58)(hy:0<=y/\y<=122)(hxi:0<=Lib.indexByte moreS.data.toList x.toNat.toUInt8)(hyi:0<=Lib.indexByte Rj.data.toList y.toNat.toUInt8)(s r:ByteArray)(hpre:BC s g=true)(hr:s.extract 1 s.size=r)(hidx:Lib.indexByte r.data.toList 58=((1:Nat):Int))(hrs:r.size=3)(h0:r.extract 0 1=aN x)(h2:r.extract 2 r.size=aN y)(H:Hp):au Tryz.prog 95 [.v (.string s),.v (.string (aN g))] H (bB H (.kX [.v (.string (aN y)),.v (.bool true)])):=by
 have hcp:=xG s g hg
 rw[hpre,if_pos U,hr] at hcp
 have hcut:=JD r (aN x) (aN y) true (λH=>Ut r (aN x) (aN y) 1 (by omega) hidx (by omega) h0 h2 (by omega) H)
 have hof:=SA moreS x hx.1 hx.2 hxi
 have hho:=Us y hy.1 hy.2 hyi
 generalize aN x=bx at*
 generalize aN y=b_y at*
 generalize aN g=bg at*
 refine aF (n:=36) (H0:=H) (I:=[]) Tryz.func95 (by kernel_rfl) U (by rw[Tryz.ntmps95];rfl) .nil<|?_
 refine Q.rg<|Q.as U<|Q.as U<|Q.nt<|Q.rg<|Q.mv U<|Q.mv U<|S.qu (Z.call U U (λH=>hcp H))<|Q.mv U<|S.qu (Z.ex U U)<|S.qu (Z.ex U U)<|Q.as U<|Q.as U<|Q.nt<|Q.rg<|Q.mv U<|S.qu (Z.call U U (λH=>hcut H))<|Q.mv U<|S.qu (Z.ex U U)<|S.qu (Z.ex U U)<|S.qu (Z.ex U U)<|Q.as U<|Q.as U<|Q.as U<|Q.nt<|Q.rg<|Q.mv U<|Q.mv U<|Q.mv U<|Q.on (Z.mv U)<|Q.pk U U<|Q.mv U<|Q.on (Z.mv U)<|Q.on (Z.call U U (λH=>hof H))<|Q.pk U U<|Q.mv U<|Q.on (Z.mv U)<|Q.on (Z.call U U (λH=>hho H))<|Q.pk U U<|Q.as U<|Q.as U<|Q.nt<|UW.ret<|S.bH (λhd=>gF U (bJ U) (bJ U))<|?_
 rfl
theorem OJ(g:Int)(hg:0<=g/\g<256)(H:Hp):au Tryz.prog 95 [.v (.string ⟨#[]⟩),.v (.string (aN g))] H (bB H (.kX [.v (.string ⟨#[]⟩),.v (.bool false)])):=by
 have hcp:∀H,au Tryz.prog 135 [.v (.string ⟨#[]⟩),.v (.string (aN g))] H (bB H (.kX [.v (.string ⟨#[]⟩),.v (.bool false)])):=λH=>xG ⟨#[]⟩ g hg H
 have hcut:=JD ⟨#[]⟩ ⟨#[]⟩ ⟨#[]⟩ false aaC
 generalize aN g=bg at*
 refine aF (n:=36) (H0:=H) (I:=[]) Tryz.func95 (by kernel_rfl) U (by rw[Tryz.ntmps95];rfl) .nil<|?_
 refine Q.rg<|Q.as U<|Q.as U<|Q.nt<|Q.rg<|Q.mv U<|Q.mv U<|S.qu (Z.call U U (λH=>hcp H))<|Q.mv U<|S.qu (Z.ex U U)<|S.qu (Z.ex U U)<|Q.as U<|Q.as U<|Q.nt<|Q.rg<|Q.mv U<|S.qu (Z.call U U (λH=>hcut H))<|Q.mv U<|S.qu (Z.ex U U)<|S.qu (Z.ex U U)<|S.qu (Z.ex U U)<|Q.as U<|Q.as U<|Q.as U<|Q.nt<|Q.rg<|Q.mv U<|Q.mv U<|Q.mv U<|Q.of<|Q.pk U U<|Q.mv U<|Q.of<|Q.of<|Q.pk U U<|Q.mv U<|Q.of<|Q.of<|Q.pk U U<|Q.as U<|Q.as U<|Q.nt<|UW.ret<|S.bH (λhd=>gF U (bJ U) (bJ U))<|?_
 rfl
theorem Uu(s:ByteArray)(hs:s=⟨#[]⟩\/s∈yR)(H:Hp):au Tryz.prog 52 [.v (.string s)] H (bB H (.v (.bool (jU s)))):=by
 have hp:∃host,∀H,au Tryz.prog 95 [.v (.string s),.v (.string ⟨#[64]⟩)] H (bB H (.kX [.v (.string host),.v (.bool (jU s))])):=by
  rcases hs with rfl|hs
  ·rw[show jU (⟨#[]⟩:ByteArray)=false by kernel_rfl]
   exact⟨_,λH=>OJ 64 (by decide) H⟩
  ·have hu:jU s=true:=kJ.2 hs
   rw[hu]
   simp only[yR,pF,List.cons_append,List.nil_append,List.mem_cons,List.not_mem_nil,or_false] at hs
   rcases hs with rfl|rfl|rfl|rfl
   ·exact⟨_,λH=>nT 97 115 64 (by decide) (by decide) (by decide) (by decide) (of_decide_eq_true (by kernel_rfl)) (of_decide_eq_true (by kernel_rfl)) _ ⟨#[97,58,115]⟩ (by kernel_rfl) (by kernel_rfl) (by kernel_rfl) (by decide) (by kernel_rfl) (by kernel_rfl) H⟩
   ·exact⟨_,λH=>nT 98 115 64 (by decide) (by decide) (by decide) (by decide) (of_decide_eq_true (by kernel_rfl)) (of_decide_eq_true (by kernel_rfl)) _ ⟨#[98,58,115]⟩ (by kernel_rfl) (by kernel_rfl) (by kernel_rfl) (by decide) (by kernel_rfl) (by kernel_rfl) H⟩
   ·exact⟨_,λH=>nT 99 116 64 (by decide) (by decide) (by decide) (by decide) (of_decide_eq_true (by kernel_rfl)) (of_decide_eq_true (by kernel_rfl)) _ ⟨#[99,58,116]⟩ (by kernel_rfl) (by kernel_rfl) (by kernel_rfl) (by decide) (by kernel_rfl) (by kernel_rfl) H⟩
   ·exact⟨_,λH=>nT 97 98 64 (by decide) (by decide) (by decide) (by decide) (of_decide_eq_true (by kernel_rfl)) (of_decide_eq_true (by kernel_rfl)) _ ⟨#[97,58,98]⟩ (by kernel_rfl) (by kernel_rfl) (by kernel_rfl) (by decide) (by kernel_rfl) (by kernel_rfl) H⟩
 obtain⟨host,hp⟩:=hp
 generalize jU s=b at*
 refine aF (n:=11) (H0:=H) (I:=[]) Tryz.func52 (by kernel_rfl) U (by rw[Tryz.ntmps52];rfl) .nil<|?_
 refine Q.rg<|Q.as U<|Q.nt<|Q.rg<|Q.mv U<|S.qu (Z.call U U (λH=>hp H))<|Q.mv U<|S.qu (Z.ex U U)<|S.qu (Z.ex U U)<|Q.as U<|Q.as U<|Q.nt<|Q.rg<|Q.mv U<|Q.as U<|Q.nt<|UW.ret<|S.bH (λ_=>ak U U)<|?_
 rfl
theorem Uv(s:ByteArray)(hs:s=⟨#[]⟩\/s∈DK)(H:Hp):au Tryz.prog 53 [.v (.string s)] H (bB H (.v (.bool (jV s)))):=by
 have hp:∃host,∀H,au Tryz.prog 95 [.v (.string s),.v (.string ⟨#[33]⟩)] H (bB H (.kX [.v (.string host),.v (.bool (jV s))])):=by
  rcases hs with rfl|hs
  ·rw[show jV (⟨#[]⟩:ByteArray)=false by kernel_rfl]
   exact⟨_,λH=>OJ 33 (by decide) H⟩
  ·have hu:jV s=true:=kJ.2 hs
   rw[hu]
   simp only[DK,List.mem_cons,List.not_mem_nil,or_false] at hs
   rcases hs with rfl|rfl
   ·exact⟨_,λH=>nT 114 115 33 (by decide) (by decide) (by decide) (by decide) (of_decide_eq_true (by kernel_rfl)) (of_decide_eq_true (by kernel_rfl)) _ ⟨#[114,58,115]⟩ (by kernel_rfl) (by kernel_rfl) (by kernel_rfl) (by decide) (by kernel_rfl) (by kernel_rfl) H⟩
   ·exact⟨_,λH=>nT 114 98 33 (by decide) (by decide) (by decide) (by decide) (of_decide_eq_true (by kernel_rfl)) (of_decide_eq_true (by kernel_rfl)) _ ⟨#[114,58,98]⟩ (by kernel_rfl) (by kernel_rfl) (by kernel_rfl) (by decide) (by kernel_rfl) (by kernel_rfl) H⟩
 obtain⟨host,hp⟩:=hp
 generalize jV s=b at*
 refine aF (n:=11) (H0:=H) (I:=[]) Tryz.func53 (by kernel_rfl) U (by rw[Tryz.ntmps53];rfl) .nil<|?_
 refine Q.rg<|Q.as U<|Q.nt<|Q.rg<|Q.mv U<|S.qu (Z.call U U (λH=>hp H))<|Q.mv U<|S.qu (Z.ex U U)<|S.qu (Z.ex U U)<|Q.as U<|Q.as U<|Q.nt<|Q.rg<|Q.mv U<|Q.as U<|Q.nt<|UW.ret<|S.bH (λ_=>ak U U)<|?_
 rfl
theorem sF(x:V)(H:Hp):au Tryz.prog 50 [.agg (aC x)] H (bB H (.v (.string x.t))):=by
 obtain⟨k,n,t,ks,vs⟩:=x
 refine aF (n:=5) (H0:=H) (I:=[]) Tryz.func50 (by kernel_rfl) U (by rw[Tryz.ntmps50];rfl) .nil<|?_
 refine Q.rg<|S.dd<|D.box U U U λp1=>Q.as U<|Q.nt<|Q.rg<|Q.fa kY U<|Q.lc 0 dW U U U<|Q.as U<|Q.nt<|UW.ret<|S.bH (λ_=>ak U U)<|?_
 rfl
theorem H5(x:V)(H:Hp):au Tryz.prog 58 [.agg (aC x)] H (bB H (.v (.int .i64 x.n))):=by
 obtain⟨k,n,t,ks,vs⟩:=x
 refine aF (n:=5) (H0:=H) (I:=[]) Tryz.func58 (by kernel_rfl) U (by rw[Tryz.ntmps58];rfl) .nil<|?_
 refine Q.rg<|S.dd<|D.box U U U λp1=>Q.as U<|Q.nt<|Q.rg<|Q.fa jf U<|Q.lc 0 lg U U U<|Q.as U<|Q.nt<|UW.ret<|S.bH (λ_=>ak U U)<|?_
 rfl
theorem DN(x:V)(H:Hp):au Tryz.prog 61 [.agg (aC x)] H (bB H (.agg (aC x))):=by
 obtain⟨k,n,t,ks,vs⟩:=x
 refine aF (n:=4) (H0:=H) (I:=[]) Tryz.func61 (by kernel_rfl) U (by rw[Tryz.ntmps61];rfl) .nil<|?_
 refine Q.rg<|S.dd<|D.box U U U λp1=>S.dd<|D.al z26 U U U λp2=>Q.nt<|Q.rg<|S.qu (Z.bW 1 av U U U)<|S.s<|D.st 0 av U U U U U U U U λ_=>Q.nt<|UW.ret<|S.bH (λhd=>aX (k:=0) hd U U U gQ gT)<|?_
 rfl
theorem H6(x:V)(H:Hp):au Tryz.prog 62 [.agg (aC x)] H (bB H (.v (.bool true))):=by
 obtain⟨k,n,t,ks,vs⟩:=x
 refine aF (n:=3) (H0:=H) (I:=[]) Tryz.func62 (by kernel_rfl) U (by rw[Tryz.ntmps62];rfl) .nil<|?_
 refine Q.rg<|S.dd<|D.box U U U λp1=>Q.as U<|Q.nt<|Q.rg<|Q.as U<|Q.nt<|UW.ret<|S.bH (λ_=>ak U U)<|?_
 rfl
theorem H7(n:Int)(H:Hp):au Tryz.prog 59 [.v (.int .i64 n)] H (bB H (.v (.bool (decide (0<=n))))):=by
 refine aF (n:=5) (H0:=H) (I:=[]) Tryz.func59 (by kernel_rfl) U (by rw[Tryz.ntmps59];rfl) .nil<|?_
 refine Q.rg<|Q.as U<|Q.nt<|Q.rg<|Q.mv U<|Q.bi U U U<|Q.as U<|Q.nt<|UW.ret<|S.bH (λ_=>ak U U)<|?_
 rfl
theorem Rk(s:ByteArray)(H:Hp):au Tryz.prog 64 [.v (.string s)] H (bB H (.v (.bool (decide (s.size<=80))))):=by
 have hq:decide ((s.size:Int)<=80)=decide (s.size<=80):=by rw[Bool.eq_iff_iff];simp;omega
 rw[<-hq]
 refine aF (n:=6) (H0:=H) (I:=[]) Tryz.func64 (by kernel_rfl) U (by rw[Tryz.ntmps64];rfl) .nil<|?_
 refine Q.rg<|Q.as U<|Q.nt<|Q.rg<|Q.mv U<|S.qu (Z.wm Tryz.underlying9 U)<|Q.bi U U U<|Q.as U<|Q.nt<|UW.ret<|S.bH (λ_=>ak U U)<|?_
 rfl
theorem Mf(s:ByteArray)(H:Hp):au Tryz.prog 51 [.v (.string s)] H (bB H (.v (.bool (oP s)))):=by
 have hq:decide ((s.size:Int)<=80)=decide (s.size<=80):=by rw[Bool.eq_iff_iff];simp;omega
 have hem:=pU s
 unfold oP
 rw[<-hq]
 by_cases h0:s.size=0
 ·rw[decide_eq_true h0] at hem
  rw[decide_eq_false (by omega:¬s.size≠0),Bool.false_and]
  refine aF (n:=10) (H0:=H) (I:=[]) Tryz.func51 (by kernel_rfl) U (by rw[Tryz.ntmps51];rfl) .nil<|?_
  refine Q.rg<|Q.as U<|Q.nt<|Q.rg<|Q.mv U<|S.qu (Z.eq (u':=.v (.bool false)) (Z.bs U U U) (congrArg (λb=>AV.v (.bool (!b))) hem))<|Q.mv U<|Q.of<|Q.of<|Q.of<|Q.pk U U<|Q.as U<|Q.nt<|UW.ret<|S.bH (λ_=>ak U U)<|?_
  rfl
 ·rw[decide_eq_false h0] at hem
  rw[decide_eq_true (by omega:s.size≠0),Bool.true_and]
  refine aF (n:=10) (H0:=H) (I:=[]) Tryz.func51 (by kernel_rfl) U (by rw[Tryz.ntmps51];rfl) .nil<|?_
  refine Q.rg<|Q.as U<|Q.nt<|Q.rg<|Q.mv U<|S.qu (Z.eq (u':=.v (.bool true)) (Z.bs U U U) (congrArg (λb=>AV.v (.bool (!b))) hem))<|Q.mv U<|Q.on (Z.mv U)<|Q.on (Z.wm Tryz.underlying9 U)<|Q.on (Z.bi U U U)<|Q.pk U U<|Q.as U<|Q.nt<|UW.ret<|S.bH (λ_=>ak U U)<|?_
  rfl
theorem BF(x:V)(hx:Fits x)(H:Hp):au Tryz.prog 55 [.agg (aC x)] H (bB H (strs (fC x))):=by
 obtain⟨k,n,t,ks,vs⟩:=x
 have hto:fC (.mk k n t ks vs)=vs.map λy=>if y.k=3 then y.t else⟨#[]⟩:=rfl
 have hvl:=aS vs
 have hb:vs.length<=1000000:=hx.Xn
 have htl:(fC (.mk k n t ks vs)).length=vs.length:=by rw[hto,List.length_map]
 generalize fC (.mk k n t ks vs)=tx at*
 unfold strs
 refine aF (n:=25) (H0:=H) (I:=[]) Tryz.func55 (by kernel_rfl) U (by rw[Tryz.ntmps55];rfl) .nil<|?_
 refine Q.rg<|S.dd<|D.box U U U λp1=>Q.as U<|Q.nt<|Q.rg<|Q.as U<|US.kZ 3 9 1 (by decide) U λid=>Q.nt<|S.sq<|Q.rg<|Q.fa bU U<|Q.lc 1 dR U U U<|S.qu (Z.fM bP U)<|Q.mv U<|Q.nt<|UW.block<|S.loop (λx:Nat×Nat=>[(10,.v (.int .i64 (x.1:Int))),(9,.v (.int .i64 (vs.length:Int))),(8,.sl (bu vs)),(3,.own x.2 0 x.1 1)]) (λx=>[(x.2,.row 9 1 ((tx.take x.1).map encS))]) (λx=>x.1<=vs.length) (λx=>vs.length-x.1) (0,id) (Nat.zero_le _) ⟨rfl,by rw[<-hvl];rfl,rfl,rfl,trivial⟩ (.cons_cons _ (List.nil_sublist _))<|?_
 rintro⟨j,id⟩ hj
 dsimp only at hj⊢
 have yE:((tx.take j).map encS).length=j:=by rw[List.length_map,List.length_take];omega
 by_cases hlt:j<vs.length
 ·obtain⟨y,hgy,hyt⟩:∃y,(bu vs)[j]? =some (aC y)/\tx.getD j ⟨#[]⟩=(if y.k=3 then y.t else⟨#[]⟩):=⟨vs[j],gH vs j hlt,by rw[getD_at (by omega)];simp only[hto,List.getElem_map]⟩
  obtain⟨yk,yn,yt,yks,yvs⟩:=y
  have hsn:=GZ tx j (by omega)
  by_cases h3:yk=3
  ·have hsn:=hsn yt (by rw[hyt];exact if_pos h3)
   refine Q.rg<|Q.bi U U U<|Q.nt<|S.sq<|S.cT U (decide_eq_true (by omega))<|UW.skip<|UQ.then<|S.sq<|UW.block<|Q.rg<|S.qu (Z.ia bP U U (by omega) (by assumption) (by rfl))<|?_
   refine S.qu (Z.IG av U U)<|S.dd<|D.al z26 U U U λp5=>S.s<|D.st 0 av U U U U U U U U λ_=>Q.nt<|Q.rg<|Q.fa kY U<|Q.lc 0 dW U U U<|Q.as U<|Q.nt<|S.sq<|Q.rg<|Q.fa bT U<|Q.lc 0 fB U U U<|Q.bi U U U<|Q.nt<|S.cF U (mJ (by omega))<|UW.skip<|UQ.then<|S.rg<|Q.mv U<|Q.mv U<|S.qu (Z.bl dQ U U (bz U))<|S.dd<|D.apl 1 (j+1) dQ U U (by omega) U (.sl (kz U)) (by first|omega|(simp;omega)) hsn (by rfl) λp22=>?_
   refine Q.as U<|US.nil<|UQ.aB<|UQ.then<|S.rg<|S.qu (Z.add (r:=((j+1:Nat):Int)) U U (IntWalk.i64_in _ (by omega)))<|Q.mv U<|US.nil<|?_
   refine S.back (j+1,p22) ⟨rfl,rfl,rfl,rfl,trivial⟩ (by repeat (first|exact List.Sublist.refl _|exact List.nil_sublist _|refine .cons_cons _ ?_|refine .cons _ ?_)) (by omega) (by omega)
  ·have hsn:=hsn ⟨#[]⟩ (by rw[hyt];exact if_neg h3)
   refine Q.rg<|Q.bi U U U<|Q.nt<|S.sq<|S.cT U (decide_eq_true (by omega))<|UW.skip<|UQ.then<|S.sq<|UW.block<|Q.rg<|S.qu (Z.ia bP U U (by omega) (by assumption) (by rfl))<|?_
   refine S.qu (Z.IG av U U)<|S.dd<|D.al z26 U U U λp5=>S.s<|D.st 0 av U U U U U U U U λ_=>Q.nt<|Q.rg<|Q.fa kY U<|Q.lc 0 dW U U U<|Q.as U<|Q.nt<|S.sq<|Q.rg<|Q.fa bT U<|Q.lc 0 fB U U U<|Q.bi U U U<|Q.nt<|S.cT U (rP (by omega))<|S.rg<|Q.as U<|Q.nt<|S.rg<|Q.mv U<|Q.mv U<|S.qu (Z.bl dQ U U (bz U))<|S.dd<|D.apl 1 (j+1) dQ U U (by omega) U (.sl (kz U)) (by first|omega|(simp;omega)) hsn (by rfl) λp22=>?_
   refine Q.as U<|US.nil<|UQ.aB<|UQ.then<|S.rg<|S.qu (Z.add (r:=((j+1:Nat):Int)) U U (IntWalk.i64_in _ (by omega)))<|Q.mv U<|US.nil<|?_
   refine S.back (j+1,p22) ⟨rfl,rfl,rfl,rfl,trivial⟩ (by repeat (first|exact List.Sublist.refl _|exact List.nil_sublist _|refine .cons_cons _ ?_|refine .cons _ ?_)) (by omega) (by omega)
 ·obtain rfl:j=vs.length:=by omega
  rw[List.take_of_length_le (by omega)] at yE⊢
  refine Q.rg<|Q.bi U U U<|Q.nt<|S.sq<|S.cF U (decide_eq_false (by omega))<|UW.exit<|UQ.pass<|UQ.pass<|UQ.here<|UQ.then<|Q.rg<|Q.mv U<|US.fV 24 0 (rs:=tx.map encS) U U (by omega) (by rw[List.drop_zero];exact List.take_of_length_le (by omega))<|?_
  refine Q.as U<|Q.nt<|UW.ret<|S.bH (λ_=>ak U U)<|?_
  rfl
theorem BG(l:List ByteArray)(hl:l.length<=1000)(ha:∀s∈l,s.size<=1000/\(s.data.toList.all λb=>b.toNat<128)=true)(H:Hp):au Tryz.prog 56 [strs l] H (bB H (.v (.bool (dI l)))):=by
 have yE:(l.map encS).length=l.length:=List.length_map ..
 unfold strs
 by_cases hb:20<l.length
 ·have hn:dI l=false:=by unfold dI;rw[decide_eq_false (by omega),Bool.false_and]
  rw[hn]
  refine aF (n:=26) (H0:=H) (I:=[]) Tryz.func56 (by kernel_rfl) U (by rw[Tryz.ntmps56];rfl) .nil<|?_
  refine Q.rg<|Q.as U<|Q.nt<|S.sq<|Q.rg<|Q.mv U<|S.qu (Z.fM aZ U)<|Q.bi U U U<|Q.nt<|S.cT U (decide_eq_true (by omega))<|Q.rg<|Q.as U<|Q.nt<|UW.ret<|UQ.ax<|S.bH (λ_=>ak U U)<|?_
  rfl
 ·refine aF (n:=26) (H0:=H) (I:=[]) Tryz.func56 (by kernel_rfl) U (by rw[Tryz.ntmps56];rfl) .nil<|?_
  refine Q.rg<|Q.as U<|Q.nt<|S.sq<|Q.rg<|Q.mv U<|S.qu (Z.fM aZ U)<|Q.bi U U U<|Q.nt<|S.cF U (decide_eq_false (by omega))<|UW.skip<|UQ.then<|S.sq<|Q.rg<|Q.mv U<|S.qu (Z.fM aZ U)<|Q.mv U<|Q.nt<|UW.block<|S.loop (λj:Nat=>[(10,.v (.int .i64 (j:Int))),(9,.v (.int .i64 (l.length:Int))),(8,.sl (l.map encS)),(0,.sl (l.map encS))]) (λ_=>[]) (λj=>j<=l.length/\∀i,i<j->(jB (l.getD i ⟨#[]⟩)&&!hasB (l.take i) (l.getD i ⟨#[]⟩))=true) (λj=>l.length-j) 0 ⟨Nat.zero_le _,λi hi=>absurd hi (Nat.not_lt_zero _)⟩ ⟨rfl,by rw[<-yE];rfl,rfl,rfl,trivial⟩ (.refl _)<|?_
  rintro j ⟨hj,hall⟩
  by_cases hlt:j<l.length
  ·obtain⟨s,hs,hg,hsz,hsa⟩:∃s,l.getD j ⟨#[]⟩=s/\(l.map encS)[j]? =some (encS s)/\s.size<=1000/\jc s=true:=⟨_,rfl,l8 l j hlt,ha _ (fI hlt)⟩
   have hnm:=HY s (by omega) hsa
   have hct:=nZ (l.take j) s (by rw[List.length_take];omega)
   have htk:(l.map encS).take j=(l.take j).map encS:=(List.map_take ..).symm
   unfold strs at hct
   have hno:(jB s&&!hasB (l.take j) s)=false->dI l=false:=λh=>by
    unfold dI
    have:((List.range l.length).all λi=>jB (l.getD i ⟨#[]⟩)&&!hasB (l.take i) (l.getD i ⟨#[]⟩))=false:=List.all_eq_false.2 ⟨j,List.mem_range.2 hlt,by rw[hs,h];decide⟩
    rw[this,Bool.and_false]
   have WV:(jB s&&!hasB (l.take j) s)=true->∀i,i<j+1->(jB (l.getD i ⟨#[]⟩)&&!hasB (l.take i) (l.getD i ⟨#[]⟩))=true:=λh i hi=>by
    rcases Nat.lt_succ_iff_lt_or_eq.1 hi with h1|h1
    ·exact hall i h1
    ·rw[h1,hs];exact h
   cases hb1:jB s with
   |false=>
    rw[hb1] at hnm hno
    rw[hno U]
    refine Q.rg<|Q.bi U U U<|Q.nt<|S.sq<|S.cT U (decide_eq_true (by omega))<|UW.skip<|UQ.then<|S.sq<|UW.block<|Q.rg<|Q.mv U<|S.qu (Z.ia aZ U U (by omega) (by assumption) (by rfl))<|?_
    refine S.qu (Z.fO dW U)<|Q.as U<|Q.as U<|Q.nt<|Q.rg<|Q.mv U<|S.qu (Z.call U U (λ_=>hnm _))<|S.qu (Z.not U)<|Q.mv U<|S.tT 18 U<|Q.of<|Q.of<|Q.of<|Q.of<|Q.of<|Q.pk U U<|Q.nt<|S.cT U U<|Q.rg<|Q.as U<|Q.nt<|UW.ret<|UQ.aI<|UQ.ax<|UQ.ax<|UQ.aI<|UQ.ax<|S.bH (λ_=>ak U U)<|?_
    rfl
   |true=>
    rw[hb1] at hnm hno WV
    cases hb2:hasB (l.take j) s with
    |true=>
     rw[hb2] at hct hno
     rw[hno U]
     refine Q.rg<|Q.bi U U U<|Q.nt<|S.sq<|S.cT U (decide_eq_true (by omega))<|UW.skip<|UQ.then<|S.sq<|UW.block<|Q.rg<|Q.mv U<|S.qu (Z.ia aZ U U (by omega) (by assumption) (by rfl))<|?_
     refine S.qu (Z.fO dW U)<|Q.as U<|Q.as U<|Q.nt<|Q.rg<|Q.mv U<|S.qu (Z.call U U (λ_=>hnm _))<|S.qu (Z.not U)<|Q.mv U<|S.tF 18 U<|Q.on (Z.mv U)<|Q.on (Z.mv U)<|Q.on (Z.Xl aZ U (j5 l) (.hi (a:=j) U) (by omega) (by omega) (by rw[htk,List.drop_zero]))<|?_
     refine Q.on (Z.mv U)<|Q.on (Z.call U U (λH=>hct H))<|Q.pk U U<|Q.nt<|S.cT U U<|Q.rg<|Q.as U<|Q.nt<|UW.ret<|UQ.aI<|UQ.ax<|UQ.ax<|UQ.aI<|UQ.ax<|S.bH (λ_=>ak U U)<|?_
     rfl
    |false=>
     rw[hb2] at hct WV
     have WV:=WV U
     refine Q.rg<|Q.bi U U U<|Q.nt<|S.sq<|S.cT U (decide_eq_true (by omega))<|UW.skip<|UQ.then<|S.sq<|UW.block<|Q.rg<|Q.mv U<|S.qu (Z.ia aZ U U (by omega) (by assumption) (by rfl))<|?_
     refine S.qu (Z.fO dW U)<|Q.as U<|Q.as U<|Q.nt<|Q.rg<|Q.mv U<|S.qu (Z.call U U (λ_=>hnm _))<|S.qu (Z.not U)<|Q.mv U<|S.tF 18 U<|Q.on (Z.mv U)<|Q.on (Z.mv U)<|Q.on (Z.Xl aZ U (j5 l) (.hi (a:=j) U) (by omega) (by omega) (by rw[htk,List.drop_zero]))<|?_
     refine Q.on (Z.mv U)<|Q.on (Z.call U U (λH=>hct H))<|Q.pk U U<|Q.nt<|S.cF U U<|UW.skip<|UQ.aB<|UQ.then<|S.rg<|S.qu (Z.add (r:=((j+1:Nat):Int)) U U (IntWalk.i64_in _ (by omega)))<|Q.mv U<|US.nil<|?_
     refine S.back (j+1) ⟨rfl,rfl,rfl,rfl,trivial⟩ (.refl _) ?_ (by omega)
     exact⟨hlt,WV⟩
  ·have he:dI l=true:=by
    unfold dI
    rw[decide_eq_true (by omega:l.length<=20),Bool.true_and,List.all_eq_true]
    exactλi hi=>hall i (by have:=List.mem_range.1 hi;omega)
   rw[he]
   refine Q.rg<|Q.bi U U U<|Q.nt<|S.sq<|S.cF U (decide_eq_false (by omega))<|UW.exit<|UQ.pass<|UQ.pass<|UQ.here<|UQ.then<|Q.rg<|Q.as U<|Q.nt<|UW.ret<|S.bH (λ_=>ak U U)<|?_
   rfl
def oQ(p:Nat)(v:V)(ok:Bool):List (Nat×Ob):=[(p,.box 69 (aC v++[.v (.bool ok)]))]
theorem vH(p:Nat)(v:V)(hv:Fits v)(ok:Bool)(key:ByteArray)(kind:Int)(G:Hp)(hd:aP G (oQ p v ok)):au Tryz.prog 94 [.ptr p 0,.v (.string key),.v (.int .i64 kind)] (aD G (oQ p v ok)) (λu H'=>∃news,aP G news/\H'=aD G news/\(u=.agg (aC (aH v key).1)/\news=oQ p v (ok&&r9 v key kind))):=by
 have hg:=tq v hv key
 have hf:r9 v key kind=((aH v key).2&&decide ((aH v key).1.k=kind)):=rfl
 rw[hf]
 clear hf
 generalize (aH v key).2=b at*
 generalize (aH v key).1=y at*
 obtain⟨k,n,t,ks,vs⟩:=v
 obtain⟨yk,yn,yt,yks,yvs⟩:=y
 unfold oQ at hd⊢
 cases ok with
 |false=>
  refine aF (n:=35) (H0:=G) (I:=_) Tryz.func94 (by kernel_rfl) U (by rw[Tryz.ntmps94];rfl) hd<|?_
  refine Q.rg<|S.dd<|D.al z26 U U U λp6=>Q.nt<|Q.rg<|Q.mv U<|S.qu (Z.oZ U)<|Q.fa WS U<|S.qu (Z.SN 1 av U U U)<|Q.mv U<|S.qu (Z.call U U (λH=>hg H))<|Q.mv U<|S.qu (Z.ex U U)<|S.qu (Z.ex U U)<|S.dd<|D.al z26 U U U λp7=>S.s<|D.st 0 av U U U U U U U U λ_=>Q.as U<|Q.nt<|Q.rg<|Q.mv U<|Q.mv U<|S.qu (Z.oZ U)<|Q.fa jh U<|Q.lc 2 oo U U U<|Q.mv U<|Q.of<|Q.pk U U<|Q.mv U<|Q.of<|Q.of<|Q.of<|Q.of<|Q.pk U U<|S.qu (Z.oZ U)<|Q.fa jh U<|S.s<|D.st 2 oo U U U U U U U U λ_=>Q.nt<|Q.rg<|S.qu (Z.bW 0 av U U U)<|S.s<|D.st 1 av U U U U U U U U λ_=>Q.nt<|UW.ret<|?_
  exact bR [_] (λhd=>aX (k:=1) hd U U U gQ gT) (.cons _ (.cons _ (.refl _))) λhd=>⟨_,hd,rfl,rfl,rfl⟩
 |true=>
  cases b with
  |false=>
   refine aF (n:=35) (H0:=G) (I:=_) Tryz.func94 (by kernel_rfl) U (by rw[Tryz.ntmps94];rfl) hd<|?_
   refine Q.rg<|S.dd<|D.al z26 U U U λp6=>Q.nt<|Q.rg<|Q.mv U<|S.qu (Z.oZ U)<|Q.fa WS U<|S.qu (Z.SN 1 av U U U)<|Q.mv U<|S.qu (Z.call U U (λH=>hg H))<|Q.mv U<|S.qu (Z.ex U U)<|S.qu (Z.ex U U)<|S.dd<|D.al z26 U U U λp7=>S.s<|D.st 0 av U U U U U U U U λ_=>Q.as U<|Q.nt<|Q.rg<|Q.mv U<|Q.mv U<|S.qu (Z.oZ U)<|Q.fa jh U<|Q.lc 2 oo U U U<|Q.mv U<|Q.on (Z.mv U)<|Q.pk U U<|Q.mv U<|Q.of<|Q.of<|Q.of<|Q.of<|Q.pk U U<|S.qu (Z.oZ U)<|Q.fa jh U<|S.s<|D.st 2 oo U U U U U U U U λ_=>Q.nt<|Q.rg<|S.qu (Z.bW 0 av U U U)<|S.s<|D.st 1 av U U U U U U U U λ_=>Q.nt<|UW.ret<|?_
   exact bR [_] (λhd=>aX (k:=1) hd U U U gQ gT) (.cons _ (.cons _ (.refl _))) λhd=>⟨_,hd,rfl,rfl,rfl⟩
  |true=>
   refine aF (n:=35) (H0:=G) (I:=_) Tryz.func94 (by kernel_rfl) U (by rw[Tryz.ntmps94];rfl) hd<|?_
   refine Q.rg<|S.dd<|D.al z26 U U U λp6=>Q.nt<|Q.rg<|Q.mv U<|S.qu (Z.oZ U)<|Q.fa WS U<|S.qu (Z.SN 1 av U U U)<|Q.mv U<|S.qu (Z.call U U (λH=>hg H))<|Q.mv U<|S.qu (Z.ex U U)<|S.qu (Z.ex U U)<|S.dd<|D.al z26 U U U λp7=>S.s<|D.st 0 av U U U U U U U U λ_=>Q.as U<|Q.nt<|Q.rg<|Q.mv U<|Q.mv U<|S.qu (Z.oZ U)<|Q.fa jh U<|Q.lc 2 oo U U U<|Q.mv U<|Q.on (Z.mv U)<|Q.pk U U<|Q.mv U<|Q.on (Z.fa bT U)<|Q.on (Z.dM 0 fB U U U)<|Q.on (Z.mv U)<|Q.on (Z.bi U U U)<|Q.pk U U<|S.qu (Z.oZ U)<|Q.fa jh U<|S.s<|D.st 2 oo U U U U U U U U λ_=>Q.nt<|Q.rg<|S.qu (Z.bW 0 av U U U)<|S.s<|D.st 1 av U U U U U U U U λ_=>Q.nt<|UW.ret<|?_
   exact bR [_] (λhd=>aX (k:=1) hd U U U gQ gT) (.cons _ (.cons _ (.refl _))) λhd=>⟨_,hd,rfl,rfl,rfl⟩
theorem vI(p:Nat)(v:V)(hv:Fits v)(ok:Bool)(key:ByteArray)(kind:Int)(tf mf:Nat)(tv:ByteArray)(mb:Bool)(ht:∀H,au Tryz.prog tf [.agg (aC (aH v key).1)] H (bB H (.v (.string tv))))(hm:∀H,au Tryz.prog mf [.v (.string tv)] H (bB H (.v (.bool mb))))(G:Hp)(hd:aP G (oQ p v ok)):au Tryz.prog 49 [.ptr p 0,.v (.string key),.v (.int .i64 kind),.iF tf [],.iF mf []] (aD G (oQ p v ok)) (λu H'=>∃news,aP G news/\H'=aD G news/\(u=.v (.string tv)/\news=oQ p v (ok&&(r9 v key kind&&mb)))):=by
 have hf:=vH p v hv ok key kind
 have hb:(ok&&(r9 v key kind&&mb))=((ok&&r9 v key kind)&&mb):=(Bool.and_assoc ..).symm
 rw[hb]
 generalize (ok&&r9 v key kind)=o2 at*
 generalize (aH v key).1=y at*
 obtain⟨k,n,t,ks,vs⟩:=v
 unfold oQ at hd hf⊢
 cases o2 with
 |false=>
  refine aF (n:=31) (H0:=G) (I:=_) Tryz.func49 (by kernel_rfl) U (by rw[Tryz.ntmps49];rfl) hd<|?_
  refine Q.rg<|Q.as U<|Q.nt<|Q.rg<|Q.mv U<|Q.mv U<|Q.mv U<|Q.mv U<|S.dd<|D.co (.cons 0 U .nil) U U (λG hD=>hf G hD)<|?_
  rintro _ _ ⟨rfl,rfl⟩
  refine S.qu (Z.call U U (λH=>ht H))<|Q.as U<|Q.nt<|Q.rg<|Q.mv U<|Q.mv U<|S.qu (Z.oZ U)<|Q.fa jh U<|Q.lc 0 oo U U U<|Q.mv U<|Q.of<|Q.of<|Q.of<|Q.pk U U<|S.qu (Z.oZ U)<|Q.fa jh U<|S.s<|D.st 0 oo U U U U U U U U λ_=>Q.nt<|Q.rg<|Q.mv U<|Q.as U<|Q.nt<|UW.ret<|?_
  exact bR [_] (λ_=>ak U U) (.refl _) λhd=>⟨_,hd,rfl,rfl,rfl⟩
 |true=>
  refine aF (n:=31) (H0:=G) (I:=_) Tryz.func49 (by kernel_rfl) U (by rw[Tryz.ntmps49];rfl) hd<|?_
  refine Q.rg<|Q.as U<|Q.nt<|Q.rg<|Q.mv U<|Q.mv U<|Q.mv U<|Q.mv U<|S.dd<|D.co (.cons 0 U .nil) U U (λG hD=>hf G hD)<|?_
  rintro _ _ ⟨rfl,rfl⟩
  refine S.qu (Z.call U U (λH=>ht H))<|Q.as U<|Q.nt<|Q.rg<|Q.mv U<|Q.mv U<|S.qu (Z.oZ U)<|Q.fa jh U<|Q.lc 0 oo U U U<|Q.mv U<|Q.on (Z.mv U)<|Q.on (Z.mv U)<|Q.on (Z.call U U (λH=>hm H))<|Q.pk U U<|S.qu (Z.oZ U)<|Q.fa jh U<|S.s<|D.st 0 oo U U U U U U U U λ_=>Q.nt<|Q.rg<|Q.mv U<|Q.as U<|Q.nt<|UW.ret<|?_
  exact bR [_] (λ_=>ak U U) (.refl _) λhd=>⟨_,hd,rfl,rfl,rfl⟩
theorem H8(p:Nat)(v:V)(hv:Fits v)(ok:Bool)(key:ByteArray)(kind:Int)(tf mf:Nat)(tv:List ByteArray)(mb:Bool)(ht:∀H,au Tryz.prog tf [.agg (aC (aH v key).1)] H (bB H (strs tv)))(hm:∀H,au Tryz.prog mf [strs tv] H (bB H (.v (.bool mb))))(G:Hp)(hd:aP G (oQ p v ok)):au Tryz.prog 54 [.ptr p 0,.v (.string key),.v (.int .i64 kind),.iF tf [],.iF mf []] (aD G (oQ p v ok)) (λu H'=>∃news,aP G news/\H'=aD G news/\(u=strs tv/\news=oQ p v (ok&&(r9 v key kind&&mb)))):=by
 have hf:=vH p v hv ok key kind
 have hb:(ok&&(r9 v key kind&&mb))=((ok&&r9 v key kind)&&mb):=(Bool.and_assoc ..).symm
 rw[hb]
 generalize (ok&&r9 v key kind)=o2 at*
 generalize (aH v key).1=y at*
 obtain⟨k,n,t,ks,vs⟩:=v
 unfold oQ at hd hf⊢
 cases o2 with
 |false=>
  refine aF (n:=31) (H0:=G) (I:=_) Tryz.func54 (by kernel_rfl) U (by rw[Tryz.ntmps54];rfl) hd<|?_
  refine Q.rg<|Q.as U<|Q.nt<|Q.rg<|Q.mv U<|Q.mv U<|Q.mv U<|Q.mv U<|S.dd<|D.co (.cons 0 U .nil) U U (λG hD=>hf G hD)<|?_
  rintro _ _ ⟨rfl,rfl⟩
  refine S.qu (Z.call U U (λH=>ht H))<|Q.as U<|Q.nt<|Q.rg<|Q.mv U<|Q.mv U<|S.qu (Z.oZ U)<|Q.fa jh U<|Q.lc 0 oo U U U<|Q.mv U<|Q.of<|Q.of<|Q.of<|Q.pk U U<|S.qu (Z.oZ U)<|Q.fa jh U<|S.s<|D.st 0 oo U U U U U U U U λ_=>Q.nt<|Q.rg<|Q.mv U<|Q.as U<|Q.nt<|UW.ret<|?_
  exact bR [_] (λ_=>ak U U) (.refl _) λhd=>⟨_,hd,rfl,rfl,rfl⟩
 |true=>
  refine aF (n:=31) (H0:=G) (I:=_) Tryz.func54 (by kernel_rfl) U (by rw[Tryz.ntmps54];rfl) hd<|?_
  refine Q.rg<|Q.as U<|Q.nt<|Q.rg<|Q.mv U<|Q.mv U<|Q.mv U<|Q.mv U<|S.dd<|D.co (.cons 0 U .nil) U U (λG hD=>hf G hD)<|?_
  rintro _ _ ⟨rfl,rfl⟩
  refine S.qu (Z.call U U (λH=>ht H))<|Q.as U<|Q.nt<|Q.rg<|Q.mv U<|Q.mv U<|S.qu (Z.oZ U)<|Q.fa jh U<|Q.lc 0 oo U U U<|Q.mv U<|Q.on (Z.mv U)<|Q.on (Z.mv U)<|Q.on (Z.call U U (λH=>hm H))<|Q.pk U U<|S.qu (Z.oZ U)<|Q.fa jh U<|S.s<|D.st 0 oo U U U U U U U U λ_=>Q.nt<|Q.rg<|Q.mv U<|Q.as U<|Q.nt<|UW.ret<|?_
  exact bR [_] (λ_=>ak U U) (.refl _) λhd=>⟨_,hd,rfl,rfl,rfl⟩
theorem H9(p:Nat)(v:V)(hv:Fits v)(ok:Bool)(key:ByteArray)(kind:Int)(tf mf:Nat)(tv:Int)(mb:Bool)(ht:∀H,au Tryz.prog tf [.agg (aC (aH v key).1)] H (bB H (.v (.int .i64 tv))))(hm:∀H,au Tryz.prog mf [.v (.int .i64 tv)] H (bB H (.v (.bool mb))))(G:Hp)(hd:aP G (oQ p v ok)):au Tryz.prog 57 [.ptr p 0,.v (.string key),.v (.int .i64 kind),.iF tf [],.iF mf []] (aD G (oQ p v ok)) (λu H'=>∃news,aP G news/\H'=aD G news/\(u=.v (.int .i64 tv)/\news=oQ p v (ok&&(r9 v key kind&&mb)))):=by
 have hf:=vH p v hv ok key kind
 have hb:(ok&&(r9 v key kind&&mb))=((ok&&r9 v key kind)&&mb):=(Bool.and_assoc ..).symm
 rw[hb]
 generalize (ok&&r9 v key kind)=o2 at*
 generalize (aH v key).1=y at*
 obtain⟨k,n,t,ks,vs⟩:=v
 unfold oQ at hd hf⊢
 cases o2 with
 |false=>
  refine aF (n:=31) (H0:=G) (I:=_) Tryz.func57 (by kernel_rfl) U (by rw[Tryz.ntmps57];rfl) hd<|?_
  refine Q.rg<|Q.as U<|Q.nt<|Q.rg<|Q.mv U<|Q.mv U<|Q.mv U<|Q.mv U<|S.dd<|D.co (.cons 0 U .nil) U U (λG hD=>hf G hD)<|?_
  rintro _ _ ⟨rfl,rfl⟩
  refine S.qu (Z.call U U (λH=>ht H))<|Q.as U<|Q.nt<|Q.rg<|Q.mv U<|Q.mv U<|S.qu (Z.oZ U)<|Q.fa jh U<|Q.lc 0 oo U U U<|Q.mv U<|Q.of<|Q.of<|Q.of<|Q.pk U U<|S.qu (Z.oZ U)<|Q.fa jh U<|S.s<|D.st 0 oo U U U U U U U U λ_=>Q.nt<|Q.rg<|Q.mv U<|Q.as U<|Q.nt<|UW.ret<|?_
  exact bR [_] (λ_=>ak U U) (.refl _) λhd=>⟨_,hd,rfl,rfl,rfl⟩
 |true=>
  refine aF (n:=31) (H0:=G) (I:=_) Tryz.func57 (by kernel_rfl) U (by rw[Tryz.ntmps57];rfl) hd<|?_
  refine Q.rg<|Q.as U<|Q.nt<|Q.rg<|Q.mv U<|Q.mv U<|Q.mv U<|Q.mv U<|S.dd<|D.co (.cons 0 U .nil) U U (λG hD=>hf G hD)<|?_
  rintro _ _ ⟨rfl,rfl⟩
  refine S.qu (Z.call U U (λH=>ht H))<|Q.as U<|Q.nt<|Q.rg<|Q.mv U<|Q.mv U<|S.qu (Z.oZ U)<|Q.fa jh U<|Q.lc 0 oo U U U<|Q.mv U<|Q.on (Z.mv U)<|Q.on (Z.mv U)<|Q.on (Z.call U U (λH=>hm H))<|Q.pk U U<|S.qu (Z.oZ U)<|Q.fa jh U<|S.s<|D.st 0 oo U U U U U U U U λ_=>Q.nt<|Q.rg<|Q.mv U<|Q.as U<|Q.nt<|UW.ret<|?_
  exact bR [_] (λ_=>ak U U) (.refl _) λhd=>⟨_,hd,rfl,rfl,rfl⟩
theorem Ia(p:Nat)(v:V)(hv:Fits v)(ok:Bool)(key:ByteArray)(kind:Int)(tf mf:Nat)(tv:V)(mb:Bool)(ht:∀H,au Tryz.prog tf [.agg (aC (aH v key).1)] H (bB H (.agg (aC tv))))(hm:∀H,au Tryz.prog mf [.agg (aC tv)] H (bB H (.v (.bool mb))))(G:Hp)(hd:aP G (oQ p v ok)):au Tryz.prog 60 [.ptr p 0,.v (.string key),.v (.int .i64 kind),.iF tf [],.iF mf []] (aD G (oQ p v ok)) (λu H'=>∃news,aP G news/\H'=aD G news/\(u=.agg (aC tv)/\news=oQ p v (ok&&(r9 v key kind&&mb)))):=by
 have hf:=vH p v hv ok key kind
 have hb:(ok&&(r9 v key kind&&mb))=((ok&&r9 v key kind)&&mb):=(Bool.and_assoc ..).symm
 rw[hb]
 generalize (ok&&r9 v key kind)=o2 at*
 generalize (aH v key).1=y at*
 obtain⟨tk,tn,tt,tks,tvs⟩:=tv
 obtain⟨k,n,t,ks,vs⟩:=v
 unfold oQ at hd hf⊢
 cases o2 with
 |false=>
  refine aF (n:=31) (H0:=G) (I:=_) Tryz.func60 (by kernel_rfl) U (by rw[Tryz.ntmps60];rfl) hd<|?_
  refine Q.rg<|S.dd<|D.al z26 U U U λTt=>Q.nt<|Q.rg<|Q.mv U<|Q.mv U<|Q.mv U<|Q.mv U<|S.dd<|D.co (.cons 1 U .nil) U U (λG hD=>hf G hD)<|?_
  rintro _ _ ⟨rfl,rfl⟩
  refine S.qu (Z.call U U (λH=>ht H))<|S.dd<|D.al z26 U U U λVX=>S.s<|D.st 0 av U U U U U U U U λ_=>Q.nt<|Q.rg<|Q.mv U<|Q.mv U<|S.qu (Z.oZ U)<|Q.fa jh U<|Q.lc 1 oo U U U<|Q.mv U<|Q.of<|Q.of<|Q.of<|Q.pk U U<|S.qu (Z.oZ U)<|Q.fa jh U<|S.s<|D.st 1 oo U U U U U U U U λ_=>Q.nt<|Q.rg<|S.qu (Z.bW 0 av U U U)<|S.s<|D.st 2 av U U U U U U U U λ_=>Q.nt<|UW.ret<|?_
  exact bR [_] (λhd=>aX (k:=2) hd U U U gQ gT) (.cons _ (.cons_cons _ (List.nil_sublist _))) λhd=>⟨_,hd,rfl,rfl,rfl⟩
 |true=>
  refine aF (n:=31) (H0:=G) (I:=_) Tryz.func60 (by kernel_rfl) U (by rw[Tryz.ntmps60];rfl) hd<|?_
  refine Q.rg<|S.dd<|D.al z26 U U U λTt=>Q.nt<|Q.rg<|Q.mv U<|Q.mv U<|Q.mv U<|Q.mv U<|S.dd<|D.co (.cons 1 U .nil) U U (λG hD=>hf G hD)<|?_
  rintro _ _ ⟨rfl,rfl⟩
  refine S.qu (Z.call U U (λH=>ht H))<|S.dd<|D.al z26 U U U λVX=>S.s<|D.st 0 av U U U U U U U U λ_=>Q.nt<|Q.rg<|Q.mv U<|Q.mv U<|S.qu (Z.oZ U)<|Q.fa jh U<|Q.lc 1 oo U U U<|Q.mv U<|Q.on (Z.mv U)<|Q.on (Z.bW 0 av U U U)<|Q.on (Z.call U U (λH=>hm H))<|Q.pk U U<|S.qu (Z.oZ U)<|Q.fa jh U<|S.s<|D.st 1 oo U U U U U U U U λ_=>Q.nt<|Q.rg<|S.qu (Z.bW 0 av U U U)<|S.s<|D.st 2 av U U U U U U U U λ_=>Q.nt<|UW.ret<|?_
  exact bR [_] (λhd=>aX (k:=2) hd U U U gQ gT) (.cons _ (.cons_cons _ (List.nil_sublist _))) λhd=>⟨_,hd,rfl,rfl,rfl⟩
end Go.Proofs.YtonpfomjoiaacaaGreatDoor
end
