/- A part of the proof. -/
import Derived.Test.YtonpfomjoiaacaaGreatDoorMz20
import Derived.Test.YtonpfomjoiaacaaGreatDoorMz14
set_option maxRecDepth 100000
set_option maxHeartbeats 4000000
set_option linter.unusedSectionVars false
set_option linter.unusedVariables false
set_option linter.unusedSimpArgs false
section
namespace Go.Proofs.YtonpfomjoiaacaaGreatDoor
open Go Go.fT Go.RowKit
def uT:ByteArray:=⟨#[48,49,50,51,52,53,54,55,56,57,97,98,99,100,101,102]⟩
def uS:ByteArray:=⟨#[92,117,48,48]⟩
def wJ(x:ByteArray)(c:Int):ByteArray:=if jL c≠0 then(x++aN 92)++aN (jL c) else if c<32 then((x++uS)++aN (eG uT (c/16)))++aN (eG uT (c % 16)) else x++aN c
def eF(s:ByteArray):Nat->ByteArray
 |0=>⟨#[]⟩++aN 34
 |k+1=>wJ (eF s k) (eG s (k:Int))
def jM(s:ByteArray):ByteArray:=eF s s.size++aN 34
theorem Q0(x:ByteArray)(c:Int):(wJ x c).size<=x.size+6:=by
 unfold wJ
 (repeat' split)<;>simp only[aZ,aV]<;>have:uS.size=4:=rfl<;>omega
theorem ql(s:ByteArray):∀k,(eF s k).size<=6*k+1
 |0=>by show(⟨#[]⟩++aN 34:ByteArray).size<=_;rw[aZ,aV];exact Nat.le_refl 1
 |k+1=>by have:=ql s k;have h2:=Q0 (eF s k) (eG s (k:Int));show(wJ _ _).size<=_;omega
theorem uU(s:ByteArray):(jM s).size<=6*s.size+2:=by have:=ql s s.size;unfold jM;rw[aZ,aV];omega
theorem and15(c:Int)(h0:0<=c)(h1:c<256):IntKind.u8.wrap ((BitVec.ofInt IntKind.u8.bits c&&&BitVec.ofInt IntKind.u8.bits 15).toNat)=c % 16:=by
 have h:∀n:Fin 256,IntKind.u8.wrap ((BitVec.ofInt IntKind.u8.bits (n.val:Int)&&&BitVec.ofInt IntKind.u8.bits 15).toNat)=(n.val:Int)% 16:=by decide
 have:=h ⟨c.toNat,by omega⟩
 rwa [show(((⟨c.toNat,by omega⟩:Fin 256).val:Nat):Int)=c from by show((c.toNat:Nat):Int)=c;omega] at this
theorem shr4(c:Int):c.fdiv 16=c/16:=Int.fdiv_eq_ediv_of_nonneg _ (by decide)
theorem jW(p r:Nat)(a:AV)(ha:Adr p a)(s s':ByteArray)(hs:s.size<=100000000000000)(c:Int)(h0:0<=c)(h1:c<256)(h:s++aN c=s')(G:Hp)(hd:aM G (vT p r a s)):au Tryz.prog 141 [.ptr p 0,.v (.int .u8 c)] (aC G (vT p r a s)) (λu H'=>∃news,aM G news/\H'=aC G news/\Z8 p s' (.v .nilIface) u news):=by
 subst h;exact oP p r a ha s hs c h0 h1 G hd
theorem DC(s:ByteArray)(hs:s.size<=1000000000000)(H:Hp):au Tryz.prog 101 [.v (.string s)] H (bz H (.v (.string (jM s)))):=by
 refine aF (n:=41) (H0:=H) (I:=[]) Tryz.func101 (by kernel_rfl) U (by rw[Tryz.ntmps101];rfl) .nil<|?_
 refine Q.rg<|Q.as U<|Q.nt<|Q.rg<|S.dd<|D.alp z141 U U λp=>?_
 (refine US.qi (sz:=1) 0 1 5 (by decide) U U (λr0=>?_);simp only[List.set_cons_zero,List.set_cons_succ])
 refine Q.nt<|Q.rg<|S.dd<|D.co (.cons 0 U (.cons 0 U .nil)) U U (λG hD=>jW p r0 (.v (.pointer none)) (.inl U) ⟨#[]⟩ (eF s 0) (by decide) 34 (by decide) (by decide) U G hD)<|?_
 (rintro _ _ ⟨rfl,r1,rfl⟩;simp only[vT,List.cons_append,List.nil_append])
 refine Q.nt<|S.sq<|Q.rg<|Q.mv U<|S.qu (Z.wP Tryz.underlying9 U)<|Q.mv U<|Q.nt<|UW.block<|S.loop (λj:Nat×Nat=>[(10,.v (.int .i64 (j.1:Int))),(9,.v (.int .i64 (s.size:Int))),(3,.ptr p 0),(0,.v (.string s))]) (λj=>vT p j.2 (.ptr p 0) (eF s j.1)) (λj=>j.1<=s.size) (λj=>s.size-j.1) (0,r1) (Nat.zero_le _) ⟨rfl,rfl,rfl,rfl,trivial⟩ (.refl _)<|?_
 rintro⟨j,r⟩ hj
 simp only at hj
 have hN:=ql s j
 have hb:=oN s (j:Int)
 have hsb:=Lf (eG s (j:Int))
 simp only[vT]
 by_cases hlt:j<s.size
 ·by_cases hq:jL (eG s (j:Int))=0
  ·by_cases hq2:eG s (j:Int)<32
   ·have hst:eF s (j+1)=((eF s j++uS)++aN (eG uT (eG s (j:Int)/16)))++aN (eG uT (eG s (j:Int)% 16)):=by show wJ _ _=_;unfold wJ;rw[if_neg (λh=>h hq),if_pos hq2]
    have hx1:=oN uT (eG s (j:Int)/16)
    have hx2:=oN uT (eG s (j:Int)% 16)
    have hz1:(eF s j++uS).size<=100000000000000:=by rw[aZ];have:uS.size=4:=rfl;omega
    have hz2:((eF s j++uS)++aN (eG uT (eG s (j:Int)/16))).size<=100000000000000:=by rw[aZ,aV,aZ];have:uS.size=4:=rfl;omega
    refine Q.rg<|Q.bi U U U<|Q.nt<|S.sq<|S.cT U (decide_eq_true (by omega))<|UW.skip<|UQ.then<|S.sq<|UW.block<|Q.rg<|Q.mv U<|Q.as U<|Q.nt<|Q.rg<|Q.mv U<|Q.mv U<|S.dd<|D.ib Tryz.underlying9 U U (by omega) (by omega) λh15=>Q.as U<|Q.nt<|Q.rg<|Q.mv U<|S.qu (Z.eq (u':=.v (.int .u8 0)) (Z.call U U (λ_=>Aq _ _)) (by rw[hq]))<|?_
    refine Q.as U<|Q.nt<|UW.block<|Q.rg<|Q.mv U<|Q.bi U U U<|Q.as U<|Q.nt<|S.cF U (nL (by omega))<|Q.rg<|Q.mv U<|Q.bi U U U<|Q.as U<|Q.nt<|S.cT U (decide_eq_true (by omega))<|Q.rg<|S.dd<|D.co (.cons 0 U (.cons 0 U .nil)) U U (λG hD=>Al p r (.ptr p 0) (.inr U) (eF s j) (by omega) uS (by decide) G hD)<|?_
    (rintro _ _ ⟨rfl,r2,rfl⟩;simp only[vT,List.cons_append,List.nil_append])
    refine Q.nt<|Q.rg<|Q.mv U<|S.qu (Z.shr (r:=eG s (j:Int)/16) U U (by decide) (shr4 _))<|S.qu (Z.is (p:=uT) Tryz.underlying9 U U (by omega) (by show _<(16:Int);omega))<|?_
    refine S.dd<|D.co (.cons 0 U (.cons 0 U .nil)) U U (λG hD=>oP p r2 (.ptr p 0) (.inr U) _ hz1 _ hx1.1 hx1.2 G hD)<|?_
    (rintro _ _ ⟨rfl,r3,rfl⟩;simp only[vT,List.cons_append,List.nil_append])
    refine Q.nt<|S.rg<|Q.mv U<|S.qu (Z.eq (u':=.v (.int .u8 (eG s (j:Int)% 16))) (Z.bi U U U) (by rw[and15 _ hb.1 hb.2]))<|?_
    refine S.qu (Z.is (p:=uT) Tryz.underlying9 U U (by omega) (by show _<(16:Int);omega))<|?_
    refine S.dd<|D.co (.cons 0 U (.cons 0 U .nil)) U U (λG hD=>jW p r3 (.ptr p 0) (.inr U) _ (eF s (j+1)) hz2 _ hx2.1 hx2.2 hst.symm G hD)<|?_
    (rintro _ _ ⟨rfl,r4,rfl⟩;simp only[vT,List.cons_append,List.nil_append])
    refine US.nil<|UQ.aB<|UQ.aB<|UQ.then<|S.rg<|S.qu (Z.add (r:=((j+1:Nat):Int)) U U (IntWalk.i64_in _ (by omega)))<|Q.mv U<|US.nil<|?_
    refine S.back (j+1,r4) ⟨rfl,rfl,rfl,rfl,trivial⟩ (.refl _) (by omega) (by omega)
   ·have hst:eF s (j+1)=eF s j++aN (eG s (j:Int)):=by show wJ _ _=_;unfold wJ;rw[if_neg (λh=>h hq),if_neg hq2]
    refine Q.rg<|Q.bi U U U<|Q.nt<|S.sq<|S.cT U (decide_eq_true (by omega))<|UW.skip<|UQ.then<|S.sq<|UW.block<|Q.rg<|Q.mv U<|Q.as U<|Q.nt<|Q.rg<|Q.mv U<|Q.mv U<|S.dd<|D.ib Tryz.underlying9 U U (by omega) (by omega) λh15=>Q.as U<|Q.nt<|Q.rg<|Q.mv U<|S.qu (Z.eq (u':=.v (.int .u8 0)) (Z.call U U (λ_=>Aq _ _)) (by rw[hq]))<|?_
    refine Q.as U<|Q.nt<|UW.block<|Q.rg<|Q.mv U<|Q.bi U U U<|Q.as U<|Q.nt<|S.cF U (nL (by omega))<|Q.rg<|Q.mv U<|Q.bi U U U<|Q.as U<|Q.nt<|S.cF U (decide_eq_false (by omega))<|S.rg<|Q.mv U<|S.dd<|D.co (.cons 0 U (.cons 0 U .nil)) U U (λG hD=>jW p r (.ptr p 0) (.inr U) _ (eF s (j+1)) (by omega) _ hb.1 hb.2 hst.symm G hD)<|?_
    (rintro _ _ ⟨rfl,r4,rfl⟩;simp only[vT,List.cons_append,List.nil_append])
    refine US.nil<|UQ.aB<|UQ.aB<|UQ.then<|S.rg<|S.qu (Z.add (r:=((j+1:Nat):Int)) U U (IntWalk.i64_in _ (by omega)))<|Q.mv U<|US.nil<|?_
    refine S.back (j+1,r4) ⟨rfl,rfl,rfl,rfl,trivial⟩ (.refl _) (by omega) (by omega)
  ·have hst:eF s (j+1)=(eF s j++aN 92)++aN (jL (eG s (j:Int))):=by show wJ _ _=_;unfold wJ;rw[if_pos hq]
   have hz1:(eF s j++aN 92).size<=100000000000000:=by rw[aZ,aV];omega
   refine Q.rg<|Q.bi U U U<|Q.nt<|S.sq<|S.cT U (decide_eq_true (by omega))<|UW.skip<|UQ.then<|S.sq<|UW.block<|Q.rg<|Q.mv U<|Q.as U<|Q.nt<|Q.rg<|Q.mv U<|Q.mv U<|S.dd<|D.ib Tryz.underlying9 U U (by omega) (by omega) λh15=>Q.as U<|Q.nt<|Q.rg<|Q.mv U<|S.qu (Z.call U U (λ_=>Aq _ _))<|Q.as U<|Q.nt<|UW.block<|Q.rg<|Q.mv U<|Q.bi U U U<|Q.as U<|Q.nt<|S.cT U (uh (by omega))<|Q.rg<|S.dd<|D.co (.cons 0 U (.cons 0 U .nil)) U U (λG hD=>oP p r (.ptr p 0) (.inr U) (eF s j) (by omega) 92 (by decide) (by decide) G hD)<|?_
   (rintro _ _ ⟨rfl,r2,rfl⟩;simp only[vT,List.cons_append,List.nil_append])
   refine Q.nt<|S.rg<|Q.mv U<|S.dd<|D.co (.cons 0 U (.cons 0 U .nil)) U U (λG hD=>jW p r2 (.ptr p 0) (.inr U) _ (eF s (j+1)) hz1 _ hsb.1 hsb.2 hst.symm G hD)<|?_
   (rintro _ _ ⟨rfl,r4,rfl⟩;simp only[vT,List.cons_append,List.nil_append])
   refine US.nil<|UQ.aB<|UQ.aB<|UQ.then<|S.rg<|S.qu (Z.add (r:=((j+1:Nat):Int)) U U (IntWalk.i64_in _ (by omega)))<|Q.mv U<|US.nil<|?_
   refine S.back (j+1,r4) ⟨rfl,rfl,rfl,rfl,trivial⟩ (.refl _) (by omega) (by omega)
 ·have hjs:j=s.size:=by omega
  have hz:eF s j++aN 34=jM s:=by rw[hjs];rfl
  have hp:0<(jM s).size:=by rw[<-hz,aZ,aV];omega
  have hq:=uU s
  refine Q.rg<|Q.bi U U U<|Q.nt<|S.sq<|S.cF U (decide_eq_false (by omega))<|UW.exit<|UQ.pass<|UQ.pass<|UQ.here<|UQ.then<|Q.rg<|S.dd<|D.co (.cons 0 U (.cons 0 U .nil)) U U (λG hD=>jW p r (.ptr p 0) (.inr U) _ (jM s) (by omega) 34 (by decide) (by decide) hz G hD)<|?_
  (rintro _ _ ⟨rfl,r4,rfl⟩;simp only[vT,List.cons_append,List.nil_append])
  refine Q.nt<|Q.rg<|S.dd<|D.co (.cons 0 U (.cons 0 U .nil)) U U (λG hD=>uN p r4 (.ptr p 0) (jM s) hp (by omega) G hD)<|?_
  (rintro _ _ ⟨rfl,rfl⟩;simp only[List.nil_append])
  refine Q.as U<|Q.nt<|UW.ret<|S.bK (λ_=>ak U U)<|?_
  rfl
theorem qm(s:ByteArray)(k:Nat)(h:k<s.size):s.extract k (k+1)=aN (eG s (k:Int)):=by
 have hk:k<s.data.toList.length:=by simpa using h
 apply ByteArray.ext
 apply Array.ext'
 rw[ByteArray.data_extract,Array.toList_extract,iH s k h]
 show List.extract _ _ _=[UInt8.ofNat _]
 rw[Int.toNat_natCast,UInt8.ofNat_toNat]
 unfold List.extract
 rw[show k+1-k=1 from by omega,List.drop_eq_getElem_cons hk];rfl
theorem two_b(a b:Int)(ha:0<=a/\a<256)(hb:0<=b/\b<256):AV.sl [[.v (.int .u8 a)],[.v (.int .u8 b)]]=.sl (bJ (aN a++aN b)):=by rw[uL,nQ ha.1 ha.2,nQ hb.1 hb.2];rfl
theorem Lg(a:Int)(ha:0<=a/\a<256):AV.sl [[.v (.int .u8 a)]]=.sl (bJ (aN a)):=by rw[nQ ha.1 ha.2]
theorem uV(s:ByteArray)(hs:s.size<=1000000000000)(H:Hp):au Tryz.prog 87 [.v (.string s)] H (bz H (.v (.string (jM s)))):=by
 refine aF (n:=47) (H0:=H) (I:=[]) Tryz.func87 (by kernel_rfl) U (by rw[Tryz.ntmps87];rfl) .nil<|?_
 refine Q.rg<|Q.as U<|Q.nt<|Q.rg<|Q.as U<|Q.nt<|S.sq<|Q.rg<|Q.as U<|Q.nt<|UW.block<|S.loop (λj:Nat=>[(4,.v (.int .i64 (j:Int))),(3,.v (.string (eF s j))),(0,.v (.string s))]) (λ_=>[]) (λj=>j<=s.size) (λj=>s.size-j) 0 (Nat.zero_le _) ⟨rfl,rfl,rfl,trivial⟩ (.refl _)<|?_
 rintro j hj
 have hN:=ql s j
 have hb:=oN s (j:Int)
 have hsb:=Lf (eG s (j:Int))
 by_cases hlt:j<s.size
 ·by_cases hq:jL (eG s (j:Int))=0
  ·by_cases hq2:eG s (j:Int)<32
   ·have hx1:=oN uT (eG s (j:Int)/16)
    have hx2:=oN uT (eG s (j:Int)% 16)
    have hst:(eF s j++uS)++(aN (eG uT (eG s (j:Int)/16))++aN (eG uT (eG s (j:Int)% 16)))=eF s (j+1):=by show _=wJ _ _;unfold wJ;rw[if_neg (λh=>h hq),if_pos hq2,<-ByteArray.append_assoc]
    refine S.sq<|Q.rg<|Q.mv U<|Q.mv U<|S.qu (Z.wP Tryz.underlying9 U)<|Q.bi U U U<|Q.nt<|S.cT U (decide_eq_true (by omega))<|UW.skip<|UQ.then<|S.sq<|UW.block<|Q.rg<|Q.mv U<|Q.mv U<|S.dd<|D.ib Tryz.underlying9 U U (by omega) (by omega) λh14=>Q.as U<|Q.nt<|Q.rg<|Q.mv U<|S.qu (Z.eq (u':=.v (.int .u8 0)) (Z.call U U (λ_=>sG _ _)) (by rw[hq]))<|?_
    refine Q.bi U U U<|Q.nt<|S.cF U (nL (by omega))<|Q.rg<|Q.mv U<|Q.bi U U U<|Q.nt<|S.cT U (decide_eq_true (by omega))<|?_
    refine' UW.bG (by kernel_rfl) [0,1,0,4,12,0,32,96,252,508,1023,2047] [some 27,some 28,some 29,some 30,some 31,some 32,some 33,some 34,some 35,some 36,some 37,some 3] [some (27,_),some (28,_),some (29,_),some (30,_),some (31,_),some (32,_),some (33,_),some (34,_),some (35,_),some (36,_),some (37,_),some (3,_)] [] [] U (by decide) (by decide) (M.free (by decide) U U ?xI (M.free (by decide) U U ?sD (M.free (by decide) U U ?sF (M.free (by decide) U U ?xJ (M.free (by decide) U U ?xK (M.free (by decide) U U ?xL (M.free (by decide) U U ?xM (M.free (by decide) U U ?xN (M.free (by decide) U U ?xO (M.free (by decide) U U ?NU (M.free (by decide) U U ?Iu (M.free (by decide) U U ?Iw M.nil)))))))))))) ?Ir
    case xI=>(intro _;exact Z.mv rfl)
    case sD=>(intro _;exact Z.cat (q:=uS) rfl rfl (by show _+4<=_;omega))
    case sF=>(intro _;exact Z.mv rfl)
    case xJ=>(intro _;exact Z.eq (u':=.v (.int .u8 (eG s (j:Int)/16))) (Z.bi rfl rfl rfl) (by rw[IntWalk.u8_in _ (by rw[Int.tdiv_eq_ediv_of_nonneg hb.1];omega),Int.tdiv_eq_ediv_of_nonneg hb.1]))
    case xK=>(intro _;exact Z.is (p:=uT) Tryz.underlying9 rfl rfl (by omega) (by show _<(16:Int);omega))
    case xL=>(intro _;exact Z.mv rfl)
    case xM=>(intro _;exact Z.eq (u':=.v (.int .u8 (eG s (j:Int)% 16))) (Z.bi rfl rfl rfl) (by rw[Int.tmod_eq_emod_of_nonneg hb.1]))
    case xN=>(intro _;exact Z.is (p:=uT) Tryz.underlying9 rfl rfl (by omega) (by show _<(16:Int);omega))
    case xO=>(intro _;exact Z.bl iK rfl rfl (bA rfl))
    case NU=>(intro _;exact Z.b2s (s:=aN (eG uT (eG s (j:Int)/16))++aN (eG uT (eG s (j:Int)% 16))) Tryz.underlying22 Tryz.underlying5 Tryz.underlying9 (congrArg some (two_b _ _ hx1 hx2)))
    case Iu=>(intro _;exact Z.eq (u':=.v (.string (eF s (j+1)))) (Z.cat rfl rfl (by rw[aZ,aZ,aV,aV];show _+4+2<=_;omega)) (by rw[hst]))
    case Iw=>(intro _;exact Z.as rfl)
    refine CH.nil<|?_
    simp only[app,bV]
    refine UQ.aB<|UQ.then<|S.rg<|Q.mv U<|S.qu (Z.add (r:=((j+1:Nat):Int)) U U (IntWalk.i64_in _ (by omega)))<|Q.as U<|US.nil<|?_
    refine S.back _ ⟨rfl,rfl,rfl,trivial⟩ (.refl _) (by omega) (by omega)
   ·have hst:eF s j++s.extract j (j+1)=eF s (j+1):=by rw[qm s j hlt];show _=wJ _ _;unfold wJ;rw[if_neg (λh=>h hq),if_neg hq2]
    refine S.sq<|Q.rg<|Q.mv U<|Q.mv U<|S.qu (Z.wP Tryz.underlying9 U)<|Q.bi U U U<|Q.nt<|S.cT U (decide_eq_true (by omega))<|UW.skip<|UQ.then<|S.sq<|UW.block<|Q.rg<|Q.mv U<|Q.mv U<|S.dd<|D.ib Tryz.underlying9 U U (by omega) (by omega) λh14=>Q.as U<|Q.nt<|Q.rg<|Q.mv U<|S.qu (Z.eq (u':=.v (.int .u8 0)) (Z.call U U (λ_=>sG _ _)) (by rw[hq]))<|?_
    refine Q.bi U U U<|Q.nt<|S.cF U (nL (by omega))<|Q.rg<|Q.mv U<|Q.bi U U U<|Q.nt<|S.cF U (decide_eq_false (by omega))<|S.rg<|Q.mv U<|Q.mv U<|Q.mv U<|Q.mv U<|S.qu (Z.add (r:=((j+1:Nat):Int)) U U (IntWalk.i64_in _ (by omega)))<|S.qu (Z.slt Tryz.underlying9 U (.both U U) (by omega) (by omega))<|S.qu (Z.eq (u':=.v (.string (eF s (j+1)))) (Z.cat U U (by rw[qm s j hlt,aV];omega)) (by rw[hst]))<|?_
    refine Q.as U<|US.nil<|UQ.aB<|UQ.then<|S.rg<|Q.mv U<|S.qu (Z.add (r:=((j+1:Nat):Int)) U U (IntWalk.i64_in _ (by omega)))<|Q.as U<|US.nil<|?_
    refine S.back _ ⟨rfl,rfl,rfl,trivial⟩ (.refl _) (by omega) (by omega)
  ·have hst:(eF s j++aN 92)++aN (jL (eG s (j:Int)))=eF s (j+1):=by show _=wJ _ _;unfold wJ;rw[if_pos hq]
   refine S.sq<|Q.rg<|Q.mv U<|Q.mv U<|S.qu (Z.wP Tryz.underlying9 U)<|Q.bi U U U<|Q.nt<|S.cT U (decide_eq_true (by omega))<|UW.skip<|UQ.then<|S.sq<|UW.block<|Q.rg<|Q.mv U<|Q.mv U<|S.dd<|D.ib Tryz.underlying9 U U (by omega) (by omega) λh14=>Q.as U<|Q.nt<|Q.rg<|Q.mv U<|S.qu (Z.call U U (λ_=>sG _ _))<|Q.bi U U U<|Q.nt<|S.cT U (uh (by omega))<|S.rg<|Q.mv U<|S.qu (Z.cat (q:=aN 92) U U (by rw[aV];omega))<|?_
   refine Q.mv U<|S.qu (Z.call U U (λ_=>sG _ _))<|S.qu (Z.bl iK U U (bA U))<|S.qu (Z.b2s (s:=aN (jL (eG s (j:Int)))) Tryz.underlying22 Tryz.underlying5 Tryz.underlying9 (congrArg some (Lg _ hsb)))<|S.qu (Z.eq (u':=.v (.string (eF s (j+1)))) (Z.cat U U (by rw[aZ,aV,aV];omega)) (by rw[hst]))<|?_
   refine Q.as U<|US.nil<|UQ.aB<|UQ.then<|S.rg<|Q.mv U<|S.qu (Z.add (r:=((j+1:Nat):Int)) U U (IntWalk.i64_in _ (by omega)))<|Q.as U<|US.nil<|?_
   refine S.back _ ⟨rfl,rfl,rfl,trivial⟩ (.refl _) (by omega) (by omega)
 ·have hjs:j=s.size:=by omega
  have hz:eF s j++aN 34=jM s:=by rw[hjs];rfl
  refine S.sq<|Q.rg<|Q.mv U<|Q.mv U<|S.qu (Z.wP Tryz.underlying9 U)<|Q.bi U U U<|Q.nt<|S.cF U (decide_eq_false (by omega))<|UW.exit<|UQ.pass<|UQ.pass<|UQ.here<|UQ.then<|Q.rg<|Q.mv U<|S.qu (Z.eq (u':=.v (.string (jM s))) (Z.cat (q:=aN 34) U U (by rw[aV];omega)) (by rw[hz]))<|?_
  refine Q.as U<|Q.nt<|UW.ret<|S.bK (λ_=>ak U U)<|?_
  rfl
end Go.Proofs.YtonpfomjoiaacaaGreatDoor
end
section
namespace Go.fT
open Go Go.RowKit
section
variable [Rd]
theorem nR{H:Hp}{news:List (Nat×Ob)}(hd:aM H news):Sub H (aC H news):=fU (r':=[]) hd .nil (by simp)
def aaE(G:Hp):Prop:=∀i ob,G i=some ob->∃g x,ob=.raw g x
def low(H:Hp):Hp:=λi=>if i<2 then H i else none
theorem P5(H:Hp):Sub (low H) H:=λi ob h=>by unfold low at h;split at h;exact h;cases h
theorem Au{G:Hp}{i:Nat}{ob:Ob}:∀{r:List (Nat×Ob)},aC G r i=some ob->(i,ob)∈r\/G i=some ob
 |[],h=> .inr h
 |(j,o)::r,h=>by
  by_cases hj:i=j
  ·subst hj
   have:aC G ((i,o)::r) i=some o:=by show set _ _ _ _=_;simp
   rw[this] at h;cases h;simp
  ·have:aC G ((j,o)::r) i=aC G r i:=by show set _ _ _ _=_;rw[dM _ _ hj]
   rw[this] at h
   exact(Au h).imp (List.mem_cons_of_mem _) id
section
variable {P:Program} {n:Nat} {ops:Array Oper} {G H0:Hp} {l:List (Nat×AV)} {I keep:List (Nat×Ob)} {us lT bS:List AV} {u r:AV} {f:Nat} {cc:Operand} {args:Array Operand} {at_:Array TypeId} {dst:Option Nat} {ty:TypeId} {ps:String} {af:Array Edge}
theorem Z.fe(hc:aT l cc=some (.gN f bS))(ha:gW l args.toList=some us)(h:∀H,Sub H0 H->au P f (us++bS) H (bz H r)):QS P n ops H0 ⟨dst,.call {callee:=.value cc,args:=args,argTypes:=at_},ty,ps,af,none⟩ l I r:=QS.call U U hc ha λhd=>h _ (nR hd)
end
end
end Go.fT
end
