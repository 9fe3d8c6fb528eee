/- A part of the proof. -/
import Derived.Test.YtonpfomjoiaacaaGreatDoorMz43
set_option maxRecDepth 100000
set_option maxHeartbeats 4000000
set_option linter.unusedSectionVars false
set_option linter.unusedVariables false
set_option linter.unusedSimpArgs false
section
namespace Go.Proofs.YtonpfomjoiaacaaGreatDoor
open Go Go.fT Go.RowKit
def Py:ByteArray:=⟨#[97,98,99,100,101,102,103,104,105,106,107,108,109,110,111,112,113,114,115,116,117,118,119,120,121,122,48,49,50,51,52,53,54,55,56,57,46,45]⟩
def ZL:ByteArray:=⟨#[97,98,99,100,101,102,103,104,105,106,107,108,109,110,111,112,113,114,115,116,117,118,119,120,121,122,48,49,50,51,52,53,54,55,56,57,46,45,95,61,47]⟩
def kL:ByteArray:=⟨#[58]⟩
theorem w9(s:ByteArray)(c:Int)(H:Hp):au Tryz.prog 224 [.v (.string s),.v (.int .u8 c)] H (bz H (.v (.int .i64 (Lib.indexByte s.data.toList c.toNat.toUInt8)))):=
 au.uJ ⟨_,Tryz.func224,by kernel_rfl,by kernel_rfl⟩ λρ w vals hh hr=>by
  obtain⟨hl,hr⟩:=hr
  match vals,hl,hr with
  |[a,b],hl,hr=>
   have e1:=aS (hr 0 _ _ U U)
   have e2:=aS (hr 1 _ _ U U)
   subst e1 e2
   refine(Tryz.stringslite_IndexByte s c w).mono ?_
   rintro e w' ⟨he,rfl⟩
   exact⟨he,Below.refl _ _⟩
theorem Ki(s:ByteArray)(c:Int)(H:Hp):au Tryz.prog 185 [.v (.string s),.v (.int .u8 c)] H (bz H (.v (.int .i64 (Lib.indexByte s.data.toList c.toNat.toUInt8)))):=by
 refine aF (n:=8) (H0:=H) (I:=[]) Tryz.func185 (by kernel_rfl) U (by rw[Tryz.ntmps185];rfl) .nil ?_
 refine S.sq (S.rg ?_)
 refine S.qu (Z.as U) ?_
 refine US.nil (UQ.then (S.sq (S.rg ?_)))
 refine S.qu (Z.mv U) ?_
 refine S.qu (Z.mv U) ?_
 refine S.qu (Z.call U U (λH=>w9 s c H)) ?_
 refine S.qu (Z.as U) ?_
 refine US.nil (UQ.then (UW.ret ?_))
 refine S.bK (λ_=>ak U U) ?_
 rfl
theorem Vd(bs:ByteArray)(p:Nat)(r:Int)(h0:0<=r)(h1:r<=122)(hi:0<=Lib.indexByte bs.data.toList r.toNat.toUInt8)(H:Hp)(hp:H p=some (.box 9 [.v (.string bs)])):au Tryz.prog 184 [.v (.int .i32 r),.ptr p 0] H (bz H (.v (.bool false))):=by
 have hb:=Ki bs r
 generalize Lib.indexByte bs.data.toList r.toNat.toUInt8=q at*
 have hq:decide (q<0)=false:=decide_eq_false (by omega)
 refine aF (n:=13) (H0:=H) (I:=[]) Tryz.func184 (by kernel_rfl) U (by rw[Tryz.ntmps184];rfl) .nil ?_
 refine S.sq (S.rg ?_)
 refine S.qu (Z.as U) ?_
 refine US.nil (UQ.then (S.sq (S.rg ?_)))
 refine S.qu (Z.mv U) ?_
 refine S.qu (Z.bi U U U) ?_
 refine S.qu (Z.mv U) ?_
 refine S.tD 6 (λhc6=>?_) (λhc6=>?_)
 omega
 refine S.qu (Z.on (Z.ldo (by assumption) ed U U)) ?_
 refine S.qu (Z.on (Z.mv U)) ?_
 refine S.qu (Z.on (Z.cv (r:=r) Tryz.underlying5 U (IntWalk.u8_in _ (by omega)) (by kernel_rfl))) ?_
 refine S.qu (Z.on (Z.call U U (λH=>hb H))) ?_
 refine S.qu (Z.on (Z.eq (u':=.v (.bool false)) (Z.bi U U U) (by rw[hq]))) ?_
 refine S.qu (Z.pick U U) ?_
 refine S.qu (Z.as U) ?_
 refine US.nil (UQ.then (UW.ret ?_))
 refine S.bK (λ_=>ak U U) ?_
 rfl
theorem Kj(r:Int)(h0:0<=r)(h1:r<128)(f:Nat)(bS:List AV)(H:Hp)(hf:∀H',Sub H H'->au Tryz.prog f ([.v (.int .i32 r)]++bS) H' (bz H' (.v (.bool false)))):au Tryz.prog 225 [.v (.string (aN r)),.gN f bS,.v (.bool true)] H (bz H (.v (.int .i64 (-1)))):=by
 have hz:(aN r).size=1:=rfl
 have hb:eG (aN r) ((0:Nat):Int)=r:=wE (by omega)
 obtain⟨hd1,hd2⟩:=Ho (aN r) 0 (by omega) (by omega)
 rw[hb] at hd1
 generalize aN r=s at*
 refine aF (n:=21) (H0:=H) (I:=[]) Tryz.func225 (by kernel_rfl) U (by rw[Tryz.ntmps225];rfl) .nil ?_
 refine S.sq (S.rg ?_)
 refine S.qu (Z.as U) ?_
 refine US.nil (UQ.then (S.sq (S.sq (S.rg ?_))))
 refine S.qu (Z.mv U) ?_
 refine S.dd (D.rg Tryz.underlying9 U (λp10=>?_))
 refine US.nil (UQ.then (UW.block ?_))
 refine S.loop (λi:Nat=>[(10,.ptr p10 0),(1,.gN f bS),(2,.v (.bool true))]) (λi=>[(p10,.iter s i)]) (λi=>i<=1) (λi=>1-i) 0 (Nat.zero_le _) ⟨rfl,rfl,rfl,trivial⟩ (.refl _) ?_
 intro i hi
 by_cases h:i<1
 ·obtain rfl:i=0:=by omega
  refine S.sq (S.rg ?_)
  refine S.dd (D.nx 0 U U (by omega) U ?_)
  rw[hd2]
  refine S.qu (Z.ex U U) ?_
  refine US.nil (UQ.then (S.sq ?_))
  refine S.cT U U ?_
  refine UW.skip (UQ.then (UW.block (S.sq (S.rg ?_))))
  refine S.qu (Z.ex U U) ?_
  refine S.qu (Z.eq (u':=.v (.int .i32 r)) (Z.ex U U) (by rw[hd1])) ?_
  refine S.qu (Z.as U) ?_
  refine S.qu (Z.as U) ?_
  refine US.nil (UQ.then (S.sq (S.rg ?_)))
  refine S.qu (Z.mv U) ?_
  refine S.qu (Z.mv U) ?_
  refine S.qu (Z.nK U U (λhd=>hf _ (nR hd))) ?_
  refine S.qu (Z.mv U) ?_
  refine S.qu (Z.beq Tryz.underlying4 U U) ?_
  refine US.nil (UQ.then ?_)
  refine S.cE U (λhc19=>?_) (λhc19=>?_)
  contradiction
  refine UW.skip (UQ.aB ?_)
  refine S.back 1 ⟨rfl,rfl,rfl,trivial⟩ (.refl _) (by omega) (by omega)
 ·obtain rfl:i=1:=by omega
  refine S.sq (S.rg ?_)
  refine S.dd (D.nxo 0 U U (by omega) ?_)
  refine S.qu (Z.ex U U) ?_
  refine US.nil (UQ.then (S.sq ?_))
  refine S.cF U U ?_
  refine UW.exit (UQ.pass (UQ.pass (UQ.here (UQ.then (S.sq (S.rg ?_))))))
  refine S.qu (Z.as U) ?_
  refine US.nil (UQ.then (UW.ret ?_))
  refine S.bK (λ_=>ak U U) ?_
  rfl
theorem FI(r:Int)(h0:0<=r)(h1:r<128)(f:Nat)(bS:List AV)(H:Hp)(hf:∀H',Sub H H'->au Tryz.prog f ([.v (.int .i32 r)]++bS) H' (bz H' (.v (.bool false)))):au Tryz.prog 186 [.v (.string (aN r)),.gN f bS] H (bz H (.v (.int .i64 (-1)))):=by
 have h:=λH' (hs:Sub H H')=>Kj r h0 h1 f bS H' (λH'' (hs2:Sub H' H'')=>hf H'' (λi o hi=>hs2 _ _ (hs i o hi)))
 generalize aN r=s at*
 refine aF (n:=8) (H0:=H) (I:=[]) Tryz.func186 (by kernel_rfl) U (by rw[Tryz.ntmps186];rfl) .nil ?_
 refine S.sq (S.rg ?_)
 refine S.qu (Z.as U) ?_
 refine US.nil (UQ.then (S.sq (S.rg ?_)))
 refine S.qu (Z.mv U) ?_
 refine S.qu (Z.mv U) ?_
 refine S.qu (Z.nK U U (λhd=>h _ (nR hd))) ?_
 refine S.qu (Z.as U) ?_
 refine US.nil (UQ.then (UW.ret ?_))
 refine S.bK (λ_=>ak U U) ?_
 rfl
theorem Qz(bs:ByteArray)(r:Int)(h0:0<=r)(h1:r<=122)(hi:0<=Lib.indexByte bs.data.toList r.toNat.toUInt8)(H:Hp):au Tryz.prog 137 [.v (.string (aN r)),.v (.string bs)] H (bz H (.v (.bool true))):=by
 have hz:(aN r).size=1:=rfl
 have hne:((aN r).toList==(⟨#[]⟩:ByteArray).toList)=false:=by rw[ow];rfl
 have hx:=λp H hp=>FI r h0 (by omega) 184 [.ptr p 0] H (λH' hs=>Vd bs p r h0 h1 hi H' (hs _ _ hp))
 generalize aN r=s at*
 refine aF (n:=20) (H0:=H) (I:=[]) Tryz.func137 (by kernel_rfl) U (by rw[Tryz.ntmps137];rfl) .nil ?_
 focus
  refine S.sq (S.rg ?_)
  refine S.dd (D.box U U U (λp3=>?_))
  refine S.qu (Z.as U) ?_
  refine US.nil (UQ.then (S.sq (S.rg ?_)))
  refine S.qu (Z.mf U) ?_
  refine S.qu (Z.as U) ?_
  refine US.nil (UQ.then (S.sq (S.rg ?_)))
  refine S.qu (Z.mv U) ?_
  refine S.qu (Z.eq (u':=.v (.bool true)) (Z.bs U U U) (congrArg (λb=>AV.v (.bool (!b))) hne)) ?_
  refine S.qu (Z.mv U) ?_
  refine S.qu (Z.on (Z.mv U)) ?_
  refine S.qu (Z.on (Z.wP Tryz.underlying9 U)) ?_
  refine S.qu (Z.on (Z.bi U U U)) ?_
  refine S.qu (Z.pick U U) ?_
  refine S.qu (Z.mv U) ?_
  refine S.tD 14 (λTE=>?_) (λTE=>?_)
  rotate_left
  omega
  refine S.qu (Z.on (Z.mv U)) ?_
  refine S.qu (Z.on (Z.mv U)) ?_
  refine S.qu (Z.on (Z.nK U U (λhd=>hx p3 _ (hd.at_ (k:=0) U)))) ?_
  refine S.qu (Z.on (Z.bi U U U)) ?_
  refine S.qu (Z.pick U U) ?_
  refine S.qu (Z.as U) ?_
  refine US.nil (UQ.then (UW.ret ?_))
  refine S.bK (λ_=>ak U U) ?_
  rfl
theorem Sd(r:Int)(h0:0<=r)(h1:r<=122)(hi:0<=Lib.indexByte Py.data.toList r.toNat.toUInt8)(H:Hp):au Tryz.prog 138 [.v (.string (aN r))] H (bz H (.v (.bool true))):=by
 have h:=Qz Py r h0 h1 hi
 generalize aN r=s at*
 refine aF (n:=5) (H0:=H) (I:=[]) Tryz.func138 (by kernel_rfl) U (by rw[Tryz.ntmps138];rfl) .nil ?_
 refine S.sq (S.rg ?_)
 refine S.qu (Z.as U) ?_
 refine US.nil (UQ.then (S.sq (S.rg ?_)))
 refine S.qu (Z.mv U) ?_
 refine S.qu (Z.call U U (λH=>h H)) ?_
 refine S.qu (Z.as U) ?_
 refine US.nil (UQ.then (UW.ret ?_))
 refine S.bK (λ_=>ak U U) ?_
 rfl
theorem BQ(s:ByteArray)(hs:s.size≠1)(H:Hp):au Tryz.prog 223 [.v (.string s),.v (.string kL)] H (bz H (.v (.int .i64 (Lib.indexByte s.data.toList 58)))):=by
 have hz:kL.size=1:=rfl
 have hne:(kL.toList==s.toList)=false:=by
  cases h:(kL.toList==s.toList) with
  |false=>rfl
  |true=>exact absurd (by rw[<-fM (eq_of_beq h)];rfl) hs
 have hc:eG kL ((0:Nat):Int)=58:=by kernel_rfl
 have hi:∀H,au Tryz.prog 224 [.v (.string s),.v (.int .u8 58)] H (bz H (.v (.int .i64 (Lib.indexByte s.data.toList 58)))):=λH=>w9 s 58 H
 generalize kL=B at*
 refine aF (n:=143) (H0:=H) (I:=[]) Tryz.func223 (by kernel_rfl) U (by rw[Tryz.ntmps223];rfl) .nil ?_
 refine S.sq (S.rg ?_)
 refine S.qu (Z.as U) ?_
 refine US.nil (UQ.then (S.sq (S.rg ?_)))
 refine S.qu (Z.mv U) ?_
 refine S.qu (Z.wP Tryz.underlying9 U) ?_
 refine S.qu (Z.as U) ?_
 refine US.nil (UQ.then (S.sq (UW.block (S.sq (S.rg ?_)))))
 refine S.qu (Z.mv U) ?_
 refine S.qu (Z.bi U U U) ?_
 refine S.qu (Z.mv U) ?_
 refine S.tE 19 (λhc19=>?_) (λhc19=>?_)
 omega
 refine S.qu (Z.on (Z.mv U)) ?_
 refine S.qu (Z.on (Z.mv U)) ?_
 refine S.qu (Z.on (Z.eq (u':=.v (.bool false)) (Z.bs U U U) (by rw[hne]))) ?_
 refine S.qu (Z.pick U U) ?_
 refine S.qu (Z.as U) ?_
 refine US.nil (UQ.then ?_)
 refine S.cF U U ?_
 refine S.sq (S.rg ?_)
 refine S.qu (Z.mv U) ?_
 refine S.qu (Z.bi U U U) ?_
 refine S.qu (Z.as U) ?_
 refine US.nil (UQ.then ?_)
 refine S.cT U (kQ (by omega)) ?_
 refine S.sq (S.rg ?_)
 refine S.qu (Z.mv U) ?_
 refine S.qu (Z.mv U) ?_
 refine S.qu (Z.eq (u':=.v (.int .u8 58)) (Z.is (p:=B) Tryz.underlying9 U U (by omega) (by omega)) (by rw[<-hc];rfl)) ?_
 refine S.qu (Z.call U U (λH=>hi H)) ?_
 refine S.qu (Z.as U) ?_
 refine US.nil (UQ.then (UW.ret (UQ.aH (UQ.ax ?_))))
 refine S.bK (λ_=>ak U U) ?_
 rfl
theorem Sg(s a b:ByteArray)(k:Nat)(hs:s.size≠1)(hk:Lib.indexByte s.data.toList 58=(k:Int))(hl:k+1<=s.size)(ha:s.extract 0 k=a)(hb:s.extract (k+1) s.size=b)(hz:s.size<=1000)(H:Hp):au Tryz.prog 183 [.v (.string s),.v (.string kL)] H (bz H (.kM [.v (.string a),.v (.string b),.v (.bool true)])):=by
 have hz2:kL.size=1:=rfl
 have hi:=BQ s hs
 rw[hk] at hi
 generalize kL=B at*
 refine aF (n:=23) (H0:=H) (I:=[]) Tryz.func183 (by kernel_rfl) U (by rw[Tryz.ntmps183];rfl) .nil ?_
 refine S.sq (S.rg ?_)
 refine S.qu (Z.as U) ?_
 refine S.qu (Z.as U) ?_
 refine S.qu (Z.as U) ?_
 refine US.nil (UQ.then (S.sq (S.sq (S.rg ?_))))
 refine S.qu (Z.mv U) ?_
 refine S.qu (Z.mv U) ?_
 refine S.qu (Z.call U U (λH=>hi H)) ?_
 refine S.qu (Z.as U) ?_
 refine US.nil (UQ.then (S.sq (S.rg ?_)))
 refine S.qu (Z.mv U) ?_
 refine S.qu (Z.bi U U U) ?_
 refine US.nil (UQ.then ?_)
 refine S.cT U (decide_eq_true (by omega)) ?_
 refine S.sq ?_
 refine' UW.bG (by kernel_rfl) [0,0,3,0,0,0,32,112,248,7,1023,2047] [some 13,some 14,some 15,some 16,some 17,some 18,some 19,some 20,some 21,some 4,some 5,some 6] [some (13,_),some (14,_),some (15,_),some (16,_),some (17,_),some (18,_),some (19,_),some (20,_),some (21,_),some (4,_),some (5,_),some (6,_)] [] [] U (by decide) (by decide) (M.free (by decide) U U ?DZ (M.free (by decide) U U ?D5 (M.free (by decide) U U ?D6 (M.free (by decide) U U ?D7 (M.free (by decide) U U ?D8 (M.free (by decide) U U ?D9 (M.free (by decide) U U ?Ea (M.free (by decide) U U ?Eb (M.free (by decide) U U ?Ec (M.free (by decide) U U ?Ed (M.free (by decide) U U ?Js (M.free (by decide) U U ?Jt M.nil)))))))))))) ?TZ
 case DZ=>(intro _;exact Z.mv rfl)
 case D5=>(intro _;exact Z.mv rfl)
 case D6=>(intro _;exact Z.eq (u':=.v (.string a)) (Z.slt (p:=s) (m:=0) (m':=k) Tryz.underlying9 rfl (.hi (a:=k) rfl) (by omega) (by omega)) (by rw[ha]))
 case D7=>(intro _;exact Z.mv rfl)
 case D8=>(intro _;exact Z.mv rfl)
 case D9=>(intro _;exact Z.mv rfl)
 case Ea=>(intro _;exact Z.wP Tryz.underlying9 rfl)
 case Eb=>(intro _;exact Z.add (r:=((k+1:Nat):Int)) rfl rfl (by rw[hz2,IntWalk.i64_in _ (by omega)];rfl))
 case Ec=>(intro _;exact Z.eq (u':=.v (.string b)) (Z.slt (p:=s) (m:=k+1) (m':=s.size) Tryz.underlying9 rfl (.lo (a:=k+1) rfl) (by omega) (by omega)) (by rw[hb]))
 case Ed=>(intro _;exact Z.as rfl)
 case Js=>(intro _;exact Z.as rfl)
 case Jt=>(intro _;exact Z.as rfl)
 refine CH.nil ?_
 simp only[app,bV]
 refine UQ.then (UW.ret (UQ.ax ?_))
 refine S.bK (λhd=>Dc U (by decide) U (iV (bE U) (iV (bE U) (iV (bE U) (Ai))))) ?_
 rfl
theorem YW(H:Hp):au Tryz.prog 183 [.v (.string ⟨#[]⟩),.v (.string kL)] H (bz H (.kM [.v (.string ⟨#[]⟩),.v (.string ⟨#[]⟩),.v (.bool false)])):=by
 have hi:∀H,au Tryz.prog 223 [.v (.string ⟨#[]⟩),.v (.string kL)] H (bz H (.v (.int .i64 (-1)))):=λH=>BQ ⟨#[]⟩ (by decide) H
 generalize kL=B at*
 refine aF (n:=23) (H0:=H) (I:=[]) Tryz.func183 (by kernel_rfl) U (by rw[Tryz.ntmps183];rfl) .nil ?_
 refine S.sq (S.rg ?_)
 refine S.qu (Z.as U) ?_
 refine S.qu (Z.as U) ?_
 refine S.qu (Z.as U) ?_
 refine US.nil (UQ.then (S.sq (S.sq (S.rg ?_))))
 refine S.qu (Z.mv U) ?_
 refine S.qu (Z.mv U) ?_
 refine S.qu (Z.call U U (λH=>hi H)) ?_
 refine S.qu (Z.as U) ?_
 refine US.nil (UQ.then (S.sq (S.rg ?_)))
 refine S.qu (Z.mv U) ?_
 refine S.qu (Z.bi U U U) ?_
 refine US.nil (UQ.then ?_)
 refine S.cF U (decide_eq_false (by omega)) ?_
 refine UW.skip (UQ.then (S.sq (S.rg ?_)))
 refine S.qu (Z.mv U) ?_
 refine S.qu (Z.as U) ?_
 refine S.qu (Z.as U) ?_
 refine S.qu (Z.as U) ?_
 refine US.nil (UQ.then (UW.ret ?_))
 refine S.bK (λhd=>Dc U (by decide) U (iV (bE U) (iV (bE U) (iV (bE U) (Ai))))) ?_
 rfl
theorem Hr(s a b:ByteArray)(ok:Bool)(h:∀H,au Tryz.prog 183 [.v (.string s),.v (.string kL)] H (bz H (.kM [.v (.string a),.v (.string b),.v (.bool ok)])))(H:Hp):au Tryz.prog 136 [.v (.string s),.v (.string kL)] H (bz H (.kM [.v (.string a),.v (.string b),.v (.bool ok)])):=by
 generalize kL=B at*
 refine aF (n:=13) (H0:=H) (I:=[]) Tryz.func136 (by kernel_rfl) U (by rw[Tryz.ntmps136];rfl) .nil ?_
 refine S.sq (S.rg ?_)
 refine S.qu (Z.as U) ?_
 refine S.qu (Z.as U) ?_
 refine S.qu (Z.as U) ?_
 refine US.nil (UQ.then (S.sq (S.rg ?_)))
 refine S.qu (Z.mv U) ?_
 refine S.qu (Z.mv U) ?_
 refine S.qu (Z.call U U (λH=>h H)) ?_
 refine S.qu (Z.ex U U) ?_
 refine S.qu (Z.ex U U) ?_
 refine S.qu (Z.ex U U) ?_
 refine S.qu (Z.as U) ?_
 refine S.qu (Z.as U) ?_
 refine S.qu (Z.as U) ?_
 refine US.nil (UQ.then (UW.ret ?_))
 refine S.bK (λhd=>Dc U (by decide) U (iV (bE U) (iV (bE U) (iV (bE U) (Ai))))) ?_
 rfl
theorem mG(x y:Int)(g:Int)(hg:0<=g/\g<256)(hx:0<=x/\x<=122)(hx2:x≠58)(hy:0<=y/\y<=122)(hxi:0<=Lib.indexByte ZL.data.toList x.toNat.toUInt8)(hyi:0<=Lib.indexByte Py.data.toList y.toNat.toUInt8)(s r:ByteArray)(hpre:zP s g=true)(hr:s.extract 1 s.size=r)(hidx:Lib.indexByte r.data.toList 58=((1:Nat):Int))(hrs:r.size=3)(h0:r.extract 0 1=aN x)(h2:r.extract 2 r.size=aN y)(H:Hp):au Tryz.prog 95 [.v (.string s),.v (.string (aN g))] H (bz H (.kM [.v (.string (aN y)),.v (.bool true)])):=by
 have hcp:=vH s g hg
 rw[hpre,if_pos U,hr] at hcp
 have hcut:=Hr r (aN x) (aN y) true (λH=>Sg r (aN x) (aN y) 1 (by omega) hidx (by omega) h0 h2 (by omega) H)
 have hof:=Qz ZL x hx.1 hx.2 hxi
 have hho:=Sd y hy.1 hy.2 hyi
 generalize aN x=bx at*
 generalize aN y=b_y at*
 generalize aN g=bg at*
 refine aF (n:=36) (H0:=H) (I:=[]) Tryz.func95 (by kernel_rfl) U (by rw[Tryz.ntmps95];rfl) .nil ?_
 refine S.sq (S.rg ?_)
 refine S.qu (Z.as U) ?_
 refine S.qu (Z.as U) ?_
 refine US.nil (UQ.then (S.sq (S.rg ?_)))
 refine S.qu (Z.mv U) ?_
 refine S.qu (Z.mv U) ?_
 refine S.qu (Z.call U U (λH=>hcp H)) ?_
 refine S.qu (Z.mv U) ?_
 refine S.qu (Z.ex U U) ?_
 refine S.qu (Z.ex U U) ?_
 refine S.qu (Z.as U) ?_
 refine S.qu (Z.as U) ?_
 refine US.nil (UQ.then (S.sq (S.rg ?_)))
 refine S.qu (Z.mv U) ?_
 refine S.qu (Z.call U U (λH=>hcut H)) ?_
 refine S.qu (Z.mv U) ?_
 refine S.qu (Z.ex U U) ?_
 refine S.qu (Z.ex U U) ?_
 refine S.qu (Z.ex U U) ?_
 refine S.qu (Z.as U) ?_
 refine S.qu (Z.as U) ?_
 refine S.qu (Z.as U) ?_
 refine US.nil (UQ.then (S.sq (S.rg ?_)))
 refine S.qu (Z.mv U) ?_
 refine S.qu (Z.mv U) ?_
 refine S.qu (Z.mv U) ?_
 refine S.qu (Z.on (Z.mv U)) ?_
 refine S.qu (Z.pick U U) ?_
 refine S.qu (Z.mv U) ?_
 refine S.qu (Z.on (Z.mv U)) ?_
 refine S.qu (Z.on (Z.call U U (λH=>hof H))) ?_
 refine S.qu (Z.pick U U) ?_
 refine S.qu (Z.mv U) ?_
 refine S.qu (Z.on (Z.mv U)) ?_
 refine S.qu (Z.on (Z.call U U (λH=>hho H))) ?_
 refine S.qu (Z.pick U U) ?_
 refine S.qu (Z.as U) ?_
 refine S.qu (Z.as U) ?_
 refine US.nil (UQ.then (UW.ret ?_))
 refine S.bK (λhd=>fJ U (bE U) (bE U)) ?_
 rfl
theorem MW(g:Int)(hg:0<=g/\g<256)(H:Hp):au Tryz.prog 95 [.v (.string ⟨#[]⟩),.v (.string (aN g))] H (bz H (.kM [.v (.string ⟨#[]⟩),.v (.bool false)])):=by
 have hcp:∀H,au Tryz.prog 135 [.v (.string ⟨#[]⟩),.v (.string (aN g))] H (bz H (.kM [.v (.string ⟨#[]⟩),.v (.bool false)])):=λH=>vH ⟨#[]⟩ g hg H
 have hcut:=Hr ⟨#[]⟩ ⟨#[]⟩ ⟨#[]⟩ false YW
 generalize aN g=bg at*
 refine aF (n:=36) (H0:=H) (I:=[]) Tryz.func95 (by kernel_rfl) U (by rw[Tryz.ntmps95];rfl) .nil ?_
 refine S.sq (S.rg ?_)
 refine S.qu (Z.as U) ?_
 refine S.qu (Z.as U) ?_
 refine US.nil (UQ.then (S.sq (S.rg ?_)))
 refine S.qu (Z.mv U) ?_
 refine S.qu (Z.mv U) ?_
 refine S.qu (Z.call U U (λH=>hcp H)) ?_
 refine S.qu (Z.mv U) ?_
 refine S.qu (Z.ex U U) ?_
 refine S.qu (Z.ex U U) ?_
 refine S.qu (Z.as U) ?_
 refine S.qu (Z.as U) ?_
 refine US.nil (UQ.then (S.sq (S.rg ?_)))
 refine S.qu (Z.mv U) ?_
 refine S.qu (Z.call U U (λH=>hcut H)) ?_
 refine S.qu (Z.mv U) ?_
 refine S.qu (Z.ex U U) ?_
 refine S.qu (Z.ex U U) ?_
 refine S.qu (Z.ex U U) ?_
 refine S.qu (Z.as U) ?_
 refine S.qu (Z.as U) ?_
 refine S.qu (Z.as U) ?_
 refine US.nil (UQ.then (S.sq (S.rg ?_)))
 refine S.qu (Z.mv U) ?_
 refine S.qu (Z.mv U) ?_
 refine S.qu (Z.mv U) ?_
 refine S.qu (Z.of) ?_
 refine S.qu (Z.pick U U) ?_
 refine S.qu (Z.mv U) ?_
 refine S.qu (Z.of) ?_
 refine S.qu (Z.of) ?_
 refine S.qu (Z.pick U U) ?_
 refine S.qu (Z.mv U) ?_
 refine S.qu (Z.of) ?_
 refine S.qu (Z.of) ?_
 refine S.qu (Z.pick U U) ?_
 refine S.qu (Z.as U) ?_
 refine S.qu (Z.as U) ?_
 refine US.nil (UQ.then (UW.ret ?_))
 refine S.bK (λhd=>fJ U (bE U) (bE U)) ?_
 rfl
theorem Si(s:ByteArray)(hs:s=⟨#[]⟩\/s∈wX)(H:Hp):au Tryz.prog 52 [.v (.string s)] H (bz H (.v (.bool (nk s)))):=by
 have hp:∃host,∀H,au Tryz.prog 95 [.v (.string s),.v (.string ⟨#[64]⟩)] H (bz H (.kM [.v (.string host),.v (.bool (nk s))])):=by
  rcases hs with rfl|hs
  ·rw[show nk (⟨#[]⟩:ByteArray)=false by kernel_rfl]
   exact⟨_,λH=>MW 64 (by decide) H⟩
  ·have hu:nk s=true:=lJ.2 hs
   rw[hu]
   simp only[wX,nW,List.cons_append,List.nil_append,List.mem_cons,List.not_mem_nil,or_false] at hs
   rcases hs with rfl|rfl|rfl|rfl
   ·exact⟨_,λH=>mG 97 115 64 (by decide) (by decide) (by decide) (by decide) (of_decide_eq_true (by kernel_rfl)) (of_decide_eq_true (by kernel_rfl)) _ ⟨#[97,58,115]⟩ (by kernel_rfl) (by kernel_rfl) (by kernel_rfl) (by decide) (by kernel_rfl) (by kernel_rfl) H⟩
   ·exact⟨_,λH=>mG 98 115 64 (by decide) (by decide) (by decide) (by decide) (of_decide_eq_true (by kernel_rfl)) (of_decide_eq_true (by kernel_rfl)) _ ⟨#[98,58,115]⟩ (by kernel_rfl) (by kernel_rfl) (by kernel_rfl) (by decide) (by kernel_rfl) (by kernel_rfl) H⟩
   ·exact⟨_,λH=>mG 99 116 64 (by decide) (by decide) (by decide) (by decide) (of_decide_eq_true (by kernel_rfl)) (of_decide_eq_true (by kernel_rfl)) _ ⟨#[99,58,116]⟩ (by kernel_rfl) (by kernel_rfl) (by kernel_rfl) (by decide) (by kernel_rfl) (by kernel_rfl) H⟩
   ·exact⟨_,λH=>mG 97 98 64 (by decide) (by decide) (by decide) (by decide) (of_decide_eq_true (by kernel_rfl)) (of_decide_eq_true (by kernel_rfl)) _ ⟨#[97,58,98]⟩ (by kernel_rfl) (by kernel_rfl) (by kernel_rfl) (by decide) (by kernel_rfl) (by kernel_rfl) H⟩
 obtain⟨host,hp⟩:=hp
 generalize nk s=b at*
 refine aF (n:=11) (H0:=H) (I:=[]) Tryz.func52 (by kernel_rfl) U (by rw[Tryz.ntmps52];rfl) .nil ?_
 refine S.sq (S.rg ?_)
 refine S.qu (Z.as U) ?_
 refine US.nil (UQ.then (S.sq (S.rg ?_)))
 refine S.qu (Z.mv U) ?_
 refine S.qu (Z.call U U (λH=>hp H)) ?_
 refine S.qu (Z.mv U) ?_
 refine S.qu (Z.ex U U) ?_
 refine S.qu (Z.ex U U) ?_
 refine S.qu (Z.as U) ?_
 refine S.qu (Z.as U) ?_
 refine US.nil (UQ.then (S.sq (S.rg ?_)))
 refine S.qu (Z.mv U) ?_
 refine S.qu (Z.as U) ?_
 refine US.nil (UQ.then (UW.ret ?_))
 refine S.bK (λ_=>ak U U) ?_
 rfl
theorem Sj(s:ByteArray)(hs:s=⟨#[]⟩\/s∈BP)(H:Hp):au Tryz.prog 53 [.v (.string s)] H (bz H (.v (.bool (nu s)))):=by
 have hp:∃host,∀H,au Tryz.prog 95 [.v (.string s),.v (.string ⟨#[33]⟩)] H (bz H (.kM [.v (.string host),.v (.bool (nu s))])):=by
  rcases hs with rfl|hs
  ·rw[show nu (⟨#[]⟩:ByteArray)=false by kernel_rfl]
   exact⟨_,λH=>MW 33 (by decide) H⟩
  ·have hu:nu s=true:=lJ.2 hs
   rw[hu]
   simp only[BP,List.mem_cons,List.not_mem_nil,or_false] at hs
   rcases hs with rfl|rfl
   ·exact⟨_,λH=>mG 114 115 33 (by decide) (by decide) (by decide) (by decide) (of_decide_eq_true (by kernel_rfl)) (of_decide_eq_true (by kernel_rfl)) _ ⟨#[114,58,115]⟩ (by kernel_rfl) (by kernel_rfl) (by kernel_rfl) (by decide) (by kernel_rfl) (by kernel_rfl) H⟩
   ·exact⟨_,λH=>mG 114 98 33 (by decide) (by decide) (by decide) (by decide) (of_decide_eq_true (by kernel_rfl)) (of_decide_eq_true (by kernel_rfl)) _ ⟨#[114,58,98]⟩ (by kernel_rfl) (by kernel_rfl) (by kernel_rfl) (by decide) (by kernel_rfl) (by kernel_rfl) H⟩
 obtain⟨host,hp⟩:=hp
 generalize nu s=b at*
 refine aF (n:=11) (H0:=H) (I:=[]) Tryz.func53 (by kernel_rfl) U (by rw[Tryz.ntmps53];rfl) .nil ?_
 refine S.sq (S.rg ?_)
 refine S.qu (Z.as U) ?_
 refine US.nil (UQ.then (S.sq (S.rg ?_)))
 refine S.qu (Z.mv U) ?_
 refine S.qu (Z.call U U (λH=>hp H)) ?_
 refine S.qu (Z.mv U) ?_
 refine S.qu (Z.ex U U) ?_
 refine S.qu (Z.ex U U) ?_
 refine S.qu (Z.as U) ?_
 refine S.qu (Z.as U) ?_
 refine US.nil (UQ.then (S.sq (S.rg ?_)))
 refine S.qu (Z.mv U) ?_
 refine S.qu (Z.as U) ?_
 refine US.nil (UQ.then (UW.ret ?_))
 refine S.bK (λ_=>ak U U) ?_
 rfl
end Go.Proofs.YtonpfomjoiaacaaGreatDoor
end
