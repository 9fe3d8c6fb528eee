/- A part of the proof. -/
import Derived.Test.YtbooeongacgnbaaGreatDoorMw28
import Derived.WalkKit
import Derived.LaidEql
import Derived.Stop.Asserts
import Derived.RowKitTokens
set_option maxRecDepth 100000
set_option maxHeartbeats 4000000
set_option linter.unusedSectionVars false
set_option linter.unusedVariables false
set_option linter.unusedSimpArgs false
section
namespace Go.Proofs.YtbooeongacgnbaaGreatDoor
open Go Go.gW Go.RowKit
def qC:ByteArray:=⟨#[34]⟩
theorem XK(s:ByteArray):Lib.hasPrefix s.data.toList qC.data.toList=true↔0<s.size/\aO s 0=34:=by
 have h0:∀h:0<(bl s).length,aO s ((0:Nat):Int)=(((bl s)[0]'h).toNat:Int):=λh=>jb s 0 h
 show Lib.hasPrefix (bl s) [34]=true↔0<(bl s).length/\_
 unfold Lib.hasPrefix
 generalize bl s=l at*
 match l,h0 with
 |[],_=>simp
 |a::r,h0=>
  have e0:aO s 0=((a.toNat:Nat):Int):=h0 (by simp)
  rw[e0]
  simp only[List.isPrefixOf,Bool.and_true,Bool.and_eq_true,beq_iff_eq,List.length_cons]
  constructor
  ·rintro rfl;exact⟨by omega,rfl⟩
  ·rintro⟨_,h2⟩
   exact UInt8.toNat_inj.1 (by have:(34:UInt8).toNat=34:=rfl;omega)
theorem XL(s:ByteArray)(h:Lib.hasPrefix s.data.toList qC.data.toList=true):(⟨(Lib.trimPrefix s.data.toList qC.data.toList).toArray⟩:ByteArray)=s.extract 1 s.size:=by
 apply lH
 unfold Lib.trimPrefix
 rw[if_pos h,bZ]
 show List.drop 1 (bl s)=_
 rw[List.take_of_length_le]
 rw[List.length_drop];exact Nat.le_refl _
theorem OX{u:ByteArray}{p n:Nat}{r:Int}(h:jy u p=some (r,n)):oG r:=by
 unfold jy at h
 have b1:=lg u p
 have b2:=lg u (p+6)
 unfold oG
 split at h
 ·rename_i g
  have hm:=C8 _ (gG u ((p+1:Nat):Int))
  injection h with h;injection h with h1 h2
  omega
 ·split at h
  ·cases h
  ·split at h
   ·injection h with h;injection h with h1 h2
    omega
   ·split at h
    ·cases h
    ·injection h with h;injection h with h1 h2
     omega
theorem OY(u:ByteArray)(k:Nat)(hk:1+k<=u.size):(u.extract 1 u.size).extract k (u.extract 1 u.size).size=u.extract (1+k) u.size:=by
 apply lH
 rw[bZ,bZ,bZ,List.drop_take,List.drop_drop,List.take_take]
 have hz:(u.extract 1 u.size).size=u.size-1:=by rw[ByteArray.size_extract];omega
 rw[hz,show min (u.size-1-k) (u.size-1-k)=u.size-(1+k) from by omega]
def bq(p r:Nat)(s:ByteArray):List (Nat×Ob):=if s.size=0 then[(p,.box 79 [.v (.pointer none),.v (.slice none 0 0)])] else sV p r (.ptr p 0) s
theorem XM(p r:Nat){s:ByteArray}(h:s.size=0):bq p r s=[(p,.box 79 [.v (.pointer none),.v (.slice none 0 0)])]:=if_pos h
theorem R5(p r:Nat){s:ByteArray}(h:s.size≠0):bq p r s=sV p r (.ptr p 0) s:=if_neg h
structure OZ(u:ByteArray)(k sk:Nat)(out:ByteArray):Prop where
 le:max k sk+1<=u.size
 sz:out.size<=4*max k sk
 eq:jA u (max k sk+1) out=gV u
 OG:∀i,k<=i->i<sk->aO u ((1+i:Nat):Int)<128
theorem Kk(r:Int):0<(bF r).size:=by
 unfold bF
 (repeat' split)<;>simp only[aY,aW]<;>omega
theorem FK(p r:Nat)(s:ByteArray)(hs:s.size<=100000000)(c:Int)(hc:oG c)(G:Hp)(hd:aK G (bq p r s)):F Tryz.prog 128 [.ptr p 0,.v (.int .i32 c)] (aB G (bq p r s)) (λu H'=>∃news,aK G news/\H'=aB G news/\∃r',news=bq p r' (s++bF c)):=by
 have hpos:=Kk c
 have hz:(s++bF c).size≠0:=by rw[aY];omega
 by_cases h0:s.size=0
 ·have he:s=⟨#[]⟩:=ByteArray.ext (Array.eq_empty_of_size_eq_zero h0)
  subst he
  rw[XM p r h0] at hd⊢
  refine F.vO 1 5 1 (by decide) U hd (λr2 hd2=>?_) ⟨_,Tryz.func128,by kernel_rfl,by kernel_rfl⟩
  refine(rM p r2 (.v (.pointer none)) (.inl U) ⟨#[]⟩ (by decide) c hc G hd2).mono λu H' ⟨news,h1,h2,_,r3,h3⟩=>⟨news,h1,h2,r3,?_⟩
  rw[h3,R5 p r3 hz]
 ·rw[R5 p r h0] at hd⊢
  refine(rM p r (.ptr p 0) (.inr U) s hs c hc G hd).mono λu H' ⟨news,h1,h2,_,r3,h3⟩=>⟨news,h1,h2,r3,?_⟩
  rw[h3,R5 p r3 hz]
theorem V4(p r:Nat)(s:ByteArray)(hs:s.size<=100000000)(G:Hp)(hd:aK G (bq p r s)):F Tryz.prog 48 [.ptr p 0] (aB G (bq p r s)) (λu H'=>∃news,aK G news/\H'=aB G news/\(u=.v (.string s)/\news=[])):=by
 by_cases h0:s.size=0
 ·have he:s=⟨#[]⟩:=ByteArray.ext (Array.eq_empty_of_size_eq_zero h0)
  subst he
  rw[XM p r h0] at hd⊢
  exact Ce p G hd
 ·rw[R5 p r h0] at hd⊢
  exact rz p r (.ptr p 0) s (by omega) (by omega) G hd
theorem V5(a b:Nat):(if ((b:Nat):Int)<((a:Nat):Int) then((b:Nat):Int) else((a:Nat):Int))=((min a b:Nat):Int):=by split<;>omega
theorem R6(u:ByteArray)(Ll:u.size<=1000000)(h:Lib.hasPrefix u.data.toList qC.data.toList=false)(H:Hp):F Tryz.prog 103 [.v (.string u)] H (bn H (OD none)):=by
 have hc:=ja u qC
 rw[h] at hc
 generalize (⟨(Lib.trimPrefix u.data.toList qC.data.toList).toArray⟩:ByteArray)=r at*
 refine aA (n:=71) (H0:=H) (M:=[]) Tryz.func103 (by kernel_rfl) U (by rw[Tryz.ntmps103];rfl) .nil<|?_
 refine Q.rg<|Q.as U<|Q.as U<|Q.nt<|Q.rg<|Q.mv U<|S.qu (Z.call U U (λH=>hc H))<|Q.mv U<|S.qu (Z.ex U U)<|S.qu (Z.ex U U)<|Q.as U<|Q.as U<|Q.nt<|S.sq<|Q.rg<|Q.mv U<|S.qu (Z.not U)<|Q.nt<|S.cT U U<|Q.rg<|Q.as U<|Q.as U<|Q.nt<|UW.ret<|UQ.aj<|S.bG (λhd=>ax U (Y U) (Y U))<|?_
 rfl
theorem O0(u:ByteArray)(Ll:u.size<=1000000)(h:Lib.hasPrefix u.data.toList qC.data.toList=true)(H:Hp){ga gb:Addr}(hG:bO ga gb H):F Tryz.prog 103 [.v (.string u)] H (bn H (OD (gV u))):=by
 have hc:=ja u qC
 rw[h,XL u h] at hc
 obtain⟨h0,Xx⟩:=(XK u).1 h
 have hr:gV u=jA u 1 ⟨#[]⟩:=if_neg (λg=>g.elim (λk=>by omega) (λk=>k Xx))
 have hz:(u.extract 1 u.size).size=u.size-1:=by rw[ByteArray.size_extract];omega
 obtain⟨rest,hrest⟩:∃rest,rest=u.extract 1 u.size:=⟨_,rfl⟩
 rw[<-hrest] at hc hz
 have hrs:rest.size<=1000000:=by omega
 have hxt:∀k,1+k<=u.size->rest.extract k rest.size=u.extract (1+k) u.size:=λk hk=>by rw[hrest];exact OY u k hk
 have hat:∀k (hk:k<rest.size),((rest[k]'hk).toNat:Int)=aO u ((1+k:Nat):Int):=λk hk=>by
  have h1:=jC u 1 k (by omega)
  rw[<-hrest] at h1
  rw[<-h1,jb rest k hk]
  rfl
 have hI0:OZ u 0 0 ⟨#[]⟩:=⟨by show 0+1<=_;omega,Nat.zero_le _,hr.symm,λi _ g=>absurd g (Nat.not_lt_zero _)⟩
 refine aA (n:=71) (H0:=H) (M:=[]) Tryz.func103 (by kernel_rfl) U (by rw[Tryz.ntmps103];rfl) .nil<|?_
 refine Q.rg<|Q.as U<|Q.as U<|Q.nt<|Q.rg<|Q.mv U<|S.qu (Z.call U U (λH=>hc H))<|Q.mv U<|S.qu (Z.ex U U)<|S.qu (Z.ex U U)<|Q.as U<|Q.as U<|Q.nt<|S.sq<|Q.rg<|Q.mv U<|S.qu (Z.not U)<|Q.nt<|S.cF U U<|UW.skip<|UQ.then<|Q.rg<|S.dd<|D.ZI z79 U U λp=>Q.nt<|Q.rg<|Q.as U<|Q.nt<|S.sq<|Q.rg<|Q.mv U<|S.dd<|D.rg Tryz.underlying9 U λMP=>Q.nt<|UW.block<|S.loop (λj:Nat×Nat×ByteArray×Nat=>[(20,.ptr MP 0),(7,.v (.int .i64 (j.2.1:Int))),(6,.ptr p 0),(4,.v (.string rest))]) (λj=>(MP,.iter rest j.1)::bq p j.2.2.2 j.2.2.1) (λj=>OZ u j.1 j.2.1 j.2.2.1) (λj=>rest.size-j.1) (0,0,⟨#[]⟩,0) hI0 ⟨rfl,rfl,rfl,rfl,trivial⟩ (.refl _)<|?_
 rintro⟨k,sk,out,rr⟩ ⟨hle,hsz,heq,hasc⟩
 dsimp only at hle hsz heq hasc⊢
 by_cases hA:k<sk
 ·have hm:max k sk=sk:=by omega
  rw[hm] at hle hsz heq
  have hlt:k<rest.size:=by omega
  have ha:=hasc k (Nat.le_refl _) hA
  have hd:=nX (u:=rest) hlt (by have:=hat k hlt;omega)
  generalize (rest[k]'hlt).toNat=b at*
  have hI1:OZ u (k+1) sk out:=by
   have hm:max (k+1) sk=sk:=by omega
   exact⟨by rw[hm];exact hle,by rw[hm];exact hsz,by rw[hm];exact heq,λi g1 g2=>hasc i (by omega) g2⟩
  refine Q.rg<|S.dd<|D.nx (aL:=(MP,.iter rest (k+1))::bq p rr out) 0 U U (by omega) (by rw[hd];rfl)<|?_
  rw[hd]
  refine S.qu (Z.ex U U)<|Q.nt<|S.sq<|S.cT U U<|UW.skip<|UQ.then<|UW.block<|Q.rg<|S.qu (Z.ex U U)<|S.qu (Z.ex U U)<|Q.as U<|Q.as U<|Q.nt<|UW.block<|Q.rg<|Q.mv U<|Q.mv U<|Q.bi U U U<|Q.as U<|Q.nt<|S.cT U (decide_eq_true (by omega))<|UW.skip<|UQ.aI<|UQ.aI<|?_
  refine S.back (k+1,sk,out,rr) ⟨rfl,rfl,rfl,rfl,trivial⟩ (.refl _) (by omega) (by omega)
 ·have hm:max k sk=k:=by omega
  rw[hm] at hle hsz heq
  have hos:out.size<=100000000:=by omega
  have hsb:=λG hD=>V4 p rr out hos G hD
  have hwb:=λc hc G hD=>FK p rr out hos c hc G hD
  rw[Nat.add_comm] at heq
  by_cases hlt:k<rest.size
  ·have PV:1+k<u.size:=by omega
   have hbb:=gG u ((1+k:Nat):Int)
   have hatk:=hat k hlt
   have hxk:=hxt k (by omega)
   by_cases V6:aO u ((1+k:Nat):Int)=34
   ·rw[<-heq,OE PV V6]
    have hd:=nX (u:=rest) hlt (by omega)
    generalize (rest[k]'hlt).toNat=b at*
    refine Q.rg<|S.dd<|D.nx (aL:=(MP,.iter rest (k+1))::bq p rr out) 0 U U (by omega) (by rw[hd];rfl)<|?_
    rw[hd]
    refine S.qu (Z.ex U U)<|Q.nt<|S.sq<|S.cT U U<|UW.skip<|UQ.then<|UW.block<|Q.rg<|S.qu (Z.ex U U)<|S.qu (Z.ex U U)<|Q.as U<|Q.as U<|Q.nt<|UW.block<|Q.rg<|Q.mv U<|Q.mv U<|Q.bi U U U<|Q.as U<|Q.nt<|S.cF U (decide_eq_false (by omega))<|Q.rg<|Q.mv U<|Q.bi U U U<|Q.as U<|Q.nt<|S.cT U (cZ (by omega))<|Q.rg<|S.dd<|D.Yj (bq p rr out) [(MP,.iter rest (k+1))] (List.perm_append_comm (l₁:=[_])) U U (λG hD=>hsb G hD)<|?_
    (rintro _ _ ⟨rfl,rfl⟩;simp only[List.append_nil])
    refine Q.mv U<|S.qu (Z.add (r:=((1+k+1:Nat):Int)) U U (Eq.trans (IntWalk.i64_in _ (by omega)) (by omega)))<|Q.as U<|Q.as U<|Q.nt<|UW.ret<|UQ.az<|UQ.az<|UQ.aj<|UQ.az<|UQ.aj<|S.bG (λhd=>ax U (Y U) (Y U))<|?_
    rfl
   ·by_cases TE:aO u ((1+k:Nat):Int)=92
    ·have hd:=nX (u:=rest) hlt (by omega)
     generalize (rest[k]'hlt).toNat=b at*
     have hes:(u.extract (1+k) u.size).size<=1000000:=by rw[ByteArray.size_extract];omega
     have uZ:=λH hG=>FI (u.extract (1+k) u.size) hes H (ga:=ga) (gb:=gb) hG
     rw[OC u (1+k) PV] at uZ
     cases he:jy u (1+k) with
     |none=>
      rw[he] at uZ
      rw[<-heq,TB PV TE he]
      refine Q.rg<|S.dd<|D.nx (aL:=(MP,.iter rest (k+1))::bq p rr out) 0 U U (by omega) (by rw[hd];rfl)<|?_
      rw[hd]
      refine S.qu (Z.ex U U)<|Q.nt<|S.sq<|S.cT U U<|UW.skip<|UQ.then<|UW.block<|Q.rg<|S.qu (Z.ex U U)<|S.qu (Z.ex U U)<|Q.as U<|Q.as U<|Q.nt<|UW.block<|Q.rg<|Q.mv U<|Q.mv U<|Q.bi U U U<|Q.as U<|Q.nt<|S.cF U (decide_eq_false (by omega))<|Q.rg<|Q.mv U<|Q.bi U U U<|Q.as U<|Q.nt<|S.cF U (bf (by omega))<|Q.rg<|Q.mv U<|Q.bi U U U<|Q.as U<|Q.nt<|S.cT U (cZ (by omega))<|Q.rg<|Q.mv U<|Q.mv U<|S.qu (Z.eq (u':=.v (.string (u.extract (1+k) u.size))) (Z.slt (p:=rest) (m:=k) (m':=rest.size) Tryz.underlying9 U (.lo U) (by omega) (by omega)) (by rw[hxk]))<|?_
      refine S.qu (Z.bU U U (λH hS=>uZ H (hG.mono hS)))<|Q.mv U<|S.qu (Z.ex U U)<|S.qu (Z.ex U U)<|Q.as U<|Q.as U<|Q.nt<|S.sq<|Q.rg<|Q.mv U<|Q.bi U U U<|Q.nt<|S.cT U (cZ (by omega))<|Q.rg<|Q.as U<|Q.as U<|Q.nt<|UW.ret<|UQ.aj<|UQ.az<|UQ.az<|UQ.aj<|UQ.az<|UQ.aj<|S.bG (λhd=>ax U (Y U) (Y U))<|?_
      rfl
     |some rn=>
      obtain⟨r,m⟩:=rn
      rw[he] at uZ
      obtain⟨hb1,hb2,hb3,hb4⟩:=JZ he
      have hro:=OX he
      have hun:=Lp (out:=out) PV TE he
      have hae:=R4 he TE
      have hwr:=hwb r hro
      have ZC:=nV r
      have hI1:OZ u (k+1) (k+m) (out++bF r):=by
       have hm:max (k+1) (k+m)=k+m:=by omega
       exact⟨by rw[hm];omega,by rw[hm,aY];omega,by rw[hm,<-heq,hun];congr 1;omega,λi g1 g2=>by
        have:=hae (i-k) (by omega)
        rwa [show 1+k+(i-k)=1+i from by omega] at this⟩
      refine Q.rg<|S.dd<|D.nx (aL:=(MP,.iter rest (k+1))::bq p rr out) 0 U U (by omega) (by rw[hd];rfl)<|?_
      rw[hd]
      refine S.qu (Z.ex U U)<|Q.nt<|S.sq<|S.cT U U<|UW.skip<|UQ.then<|UW.block<|Q.rg<|S.qu (Z.ex U U)<|S.qu (Z.ex U U)<|Q.as U<|Q.as U<|Q.nt<|UW.block<|Q.rg<|Q.mv U<|Q.mv U<|Q.bi U U U<|Q.as U<|Q.nt<|S.cF U (decide_eq_false (by omega))<|Q.rg<|Q.mv U<|Q.bi U U U<|Q.as U<|Q.nt<|S.cF U (bf (by omega))<|Q.rg<|Q.mv U<|Q.bi U U U<|Q.as U<|Q.nt<|S.cT U (cZ (by omega))<|Q.rg<|Q.mv U<|Q.mv U<|S.qu (Z.eq (u':=.v (.string (u.extract (1+k) u.size))) (Z.slt (p:=rest) (m:=k) (m':=rest.size) Tryz.underlying9 U (.lo U) (by omega) (by omega)) (by rw[hxk]))<|?_
      refine S.qu (Z.bU U U (λH hS=>uZ H (hG.mono hS)))<|Q.mv U<|S.qu (Z.ex U U)<|S.qu (Z.ex U U)<|Q.as U<|Q.as U<|Q.nt<|S.sq<|Q.rg<|Q.mv U<|Q.bi U U U<|Q.nt<|S.cF U (bf (by omega))<|UW.skip<|UQ.then<|Q.rg<|Q.mv U<|S.dd<|D.Yj (bq p rr out) [(MP,.iter rest (k+1))] (List.perm_append_comm (l₁:=[_])) U U (λG hD=>hwr G hD)<|?_
      (rintro _ _ ⟨r2,rfl⟩;simp only[List.cons_append,List.nil_append])
      refine Q.nt<|S.rg<|Q.mv U<|Q.mv U<|S.qu (Z.add (r:=((k+m:Nat):Int)) U U (IntWalk.i64_in _ (by omega)))<|Q.as U<|US.nil<|UQ.aI<|UQ.aI<|?_
      refine S.back (k+1,k+m,out++bF r,r2) ⟨rfl,rfl,rfl,rfl,trivial⟩ (.refl _) (by omega) (by omega)
    ·have hck:=λH=>nY (rest.extract k (min rest.size (k+4))) (by rw[ByteArray.size_extract];omega) H
     have hwin:=Kj rest k hlt
     have hmin:=V5 rest.size (k+4)
     have BM:k<=min rest.size (k+4)/\min rest.size (k+4)<=rest.size:=by omega
     have hra:=R3 rest k hlt
     rw[hxk] at hra hwin
     have hlow:aO u ((1+k:Nat):Int)<128->Utf8.decode rest k=((rest[k]'hlt).toNat,1):=λh=>nX (u:=rest) hlt (by omega)
     have hhigh:128<=aO u ((1+k:Nat):Int)->128<=(Utf8.decode rest k).1:=λh=>(decode_high rest k hlt (by omega)).1
     have XN:=OV rest k
     generalize (rest[k]'hlt).toNat=b at*
     generalize nu (rest.extract k (min rest.size (k+4)))=x at*
     generalize min rest.size (k+4)=mm at*
     generalize hd:Utf8.decode rest k=dd at*
     obtain⟨r,w⟩:=dd
     dsimp only at hra hlow hhigh XN
     by_cases hg:0<fA (u.extract (1+k) u.size)/\32<=aO u ((1+k:Nat):Int)
     ·rcases hra with ⟨g1,g2⟩|⟨w',g1,g2,g3,g4,g5⟩
      ·omega
      ·subst g4
       have hx0:x≠0:=λe=>by have:=hwin.1 e;omega
       have hr32:32<=(r:Int)/\(r:Int)≠34/\(r:Int)≠92:=by
        by_cases hl:aO u ((1+k:Nat):Int)<128
        ·have:=hlow hl
         injection this with e1 e2
         subst e1
         omega
        ·have:=hhigh (by omega)
         omega
       have hun:=Lr (out:=out) PV V6 TE hg
       rw[g1,Int.toNat_natCast] at hun
       have hwr:=hwb (r:Int) XN
       have hex:rest.extract k (k+w)=u.extract (1+k) (1+k+w):=by
        rw[hrest]
        apply lH
        rw[bZ,bZ,bZ,List.drop_take,List.drop_drop,List.take_take]
        congr 1
        omega
       rw[hex] at g5
       have hzw:(u.extract (1+k) (1+k+w)).size<=w:=by rw[ByteArray.size_extract];omega
       have hI1:OZ u (k+w) sk (out++bF (r:Int)):=by
        have hm:max (k+w) sk=k+w:=by omega
        exact⟨by rw[hm];omega,by rw[hm,aY,g5];omega,by rw[hm,<-heq,hun,g5];congr 1;omega,λi h1 h2=>by omega⟩
       refine Q.rg<|S.dd<|D.nx (aL:=(MP,.iter rest (k+w))::bq p rr out) 0 U U (by omega) (by rw[hd];rfl)<|?_
       rw[hd]
       refine S.qu (Z.ex U U)<|Q.nt<|S.sq<|S.cT U U<|UW.skip<|UQ.then<|UW.block<|Q.rg<|S.qu (Z.ex U U)<|S.qu (Z.ex U U)<|Q.as U<|Q.as U<|Q.nt<|UW.block<|Q.rg<|Q.mv U<|Q.mv U<|Q.bi U U U<|Q.as U<|Q.nt<|S.cF U (decide_eq_false (by omega))<|Q.rg<|Q.mv U<|Q.bi U U U<|Q.as U<|Q.nt<|S.cF U (bf (by omega))<|Q.rg<|Q.mv U<|Q.bi U U U<|Q.as U<|Q.nt<|S.cF U (bf (by omega))<|S.sq<|Q.rg<|Q.mv U<|Q.bi U U U<|Q.as U<|Q.nt<|S.cF U (decide_eq_false (by omega))<|S.rg<|Q.mv U<|Q.bi U U U<|Q.mv U<|?_
       refine S.tE 59 (λEO=>?_) (λEO=>?_)
       refine Q.on (Z.mv U)<|Q.on (Z.mv U)<|Q.on (Z.mv U)<|Q.on (Z.fC Tryz.underlying9 U)<|Q.on (Z.mv U)<|Q.on (Z.add (r:=((k+4:Nat):Int)) U U (IntWalk.i64_in _ (by omega)))<|Q.on (Z.eq (u':=.v (.int .i64 ((mm:Nat):Int))) (Z.min U U) (by rw[hmin]))<|?_
       refine Q.on (Z.slt (p:=rest) (m:=k) (m':=mm) Tryz.underlying9 U (.both U U) (by omega) (by omega))<|Q.on (Z.call U U (λH=>hck H))<|Q.on (Z.bi U U U)<|Q.pk U U<|Q.as U<|Q.nt<|S.cF U (bf (by omega))<|S.rg<|Q.mv U<|S.dd<|D.Yj (bq p rr out) [(MP,.iter rest (k+w))] (List.perm_append_comm (l₁:=[_])) U U (λG hD=>hwr G hD)<|?_
       (rintro _ _ ⟨r2,rfl⟩;simp only[List.cons_append,List.nil_append])
       refine US.nil<|UQ.aI<|UQ.aI<|?_
       refine S.back (k+w,sk,out++bF (r:Int),r2) ⟨rfl,rfl,rfl,rfl,trivial⟩ (.refl _) (by omega) (by omega)
       refine Q.of<|Q.of<|Q.of<|Q.of<|Q.of<|Q.of<|Q.of<|Q.of<|Q.of<|Q.of<|Q.pk U U<|Q.as U<|Q.nt<|S.cF U U<|S.rg<|Q.mv U<|S.dd<|D.Yj (bq p rr out) [(MP,.iter rest (k+w))] (List.perm_append_comm (l₁:=[_])) U U (λG hD=>hwr G hD)<|?_
       (rintro _ _ ⟨r2,rfl⟩;simp only[List.cons_append,List.nil_append])
       refine US.nil<|UQ.aI<|UQ.aI<|?_
       refine S.back (k+w,sk,out++bF (r:Int),r2) ⟨rfl,rfl,rfl,rfl,trivial⟩ (.refl _) (by omega) (by omega)
     ·rw[<-heq,TC PV V6 TE hg]
      by_cases hl:aO u ((1+k:Nat):Int)<32
      ·have:=hlow (by omega)
       injection this with e1 e2
       subst e1 e2
       refine Q.rg<|S.dd<|D.nx (aL:=(MP,.iter rest (k+1))::bq p rr out) 0 U U (by omega) (by rw[hd];rfl)<|?_
       rw[hd]
       refine S.qu (Z.ex U U)<|Q.nt<|S.sq<|S.cT U U<|UW.skip<|UQ.then<|UW.block<|Q.rg<|S.qu (Z.ex U U)<|S.qu (Z.ex U U)<|Q.as U<|Q.as U<|Q.nt<|UW.block<|Q.rg<|Q.mv U<|Q.mv U<|Q.bi U U U<|Q.as U<|Q.nt<|S.cF U (decide_eq_false (by omega))<|Q.rg<|Q.mv U<|Q.bi U U U<|Q.as U<|Q.nt<|S.cF U (bf (by omega))<|Q.rg<|Q.mv U<|Q.bi U U U<|Q.as U<|Q.nt<|S.cF U (bf (by omega))<|S.sq<|Q.rg<|Q.mv U<|Q.bi U U U<|Q.as U<|Q.nt<|S.cT U (decide_eq_true (by omega))<|UW.skip<|UQ.then<|S.cT U (decide_eq_true (by omega))<|Q.rg<|Q.as U<|Q.as U<|Q.nt<|UW.ret<|UQ.az<|UQ.az<|UQ.aj<|UQ.az<|UQ.aj<|S.bG (λhd=>ax U (Y U) (Y U))<|?_
       rfl
      ·rcases hra with ⟨g1,g2⟩|⟨w',g1,g2,g3,g4,g5⟩
       ·injection g2 with e1 e2
        subst e1 e2
        have hx0:x=0:=hwin.2 g1
        subst hx0
        focus
         refine Q.rg<|S.dd<|D.nx (aL:=(MP,.iter rest (k+1))::bq p rr out) 0 U U (by omega) (by rw[hd];rfl)<|?_
         rw[hd]
         refine S.qu (Z.ex U U)<|Q.nt<|S.sq<|S.cT U U<|UW.skip<|UQ.then<|UW.block<|Q.rg<|S.qu (Z.ex U U)<|S.qu (Z.ex U U)<|Q.as U<|Q.as U<|Q.nt<|UW.block<|Q.rg<|Q.mv U<|Q.mv U<|Q.bi U U U<|Q.as U<|Q.nt<|S.cF U (decide_eq_false (by omega))<|Q.rg<|Q.mv U<|Q.bi U U U<|Q.as U<|Q.nt<|S.cF U (bf (by omega))<|Q.rg<|Q.mv U<|Q.bi U U U<|Q.as U<|Q.nt<|S.cF U (bf (by omega))<|S.sq<|Q.rg<|Q.mv U<|Q.bi U U U<|Q.as U<|Q.nt<|S.cF U (decide_eq_false (by omega))<|S.rg<|Q.mv U<|Q.bi U U U<|Q.mv U<|?_
         refine S.tE 59 (λEO=>?_) (λEO=>?_)
         rotate_left
         omega
         refine Q.on (Z.mv U)<|Q.on (Z.mv U)<|Q.on (Z.mv U)<|Q.on (Z.fC Tryz.underlying9 U)<|Q.on (Z.mv U)<|Q.on (Z.add (r:=((k+4:Nat):Int)) U U (IntWalk.i64_in _ (by omega)))<|Q.on (Z.eq (u':=.v (.int .i64 ((mm:Nat):Int))) (Z.min U U) (by rw[hmin]))<|?_
         refine Q.on (Z.slt (p:=rest) (m:=k) (m':=mm) Tryz.underlying9 U (.both U U) (by omega) (by omega))<|Q.on (Z.call U U (λH=>hck H))<|Q.on (Z.bi U U U)<|Q.pk U U<|Q.as U<|Q.nt<|S.cT U (cZ (by omega))<|Q.rg<|Q.as U<|Q.as U<|Q.nt<|UW.ret<|UQ.az<|UQ.az<|UQ.aj<|UQ.az<|UQ.aj<|S.bG (λhd=>ax U (Y U) (Y U))<|?_
         rfl
       ·exact absurd ⟨by omega,by omega⟩ hg
  ·rw[<-heq,TA (by omega)]
   refine Q.rg<|S.dd<|D.WZ 0 U U (by omega)<|S.qu (Z.ex U U)<|Q.nt<|S.sq<|S.cF U U<|UW.exit<|UQ.pass<|UQ.pass<|UQ.here<|UQ.then<|Q.rg<|Q.as U<|Q.as U<|Q.nt<|UW.ret<|S.bG (λhd=>ax U (Y U) (Y U))<|?_
   rfl
theorem tQ(u:ByteArray)(Ll:u.size<=1000000)(H:Hp){ga gb:Addr}(hG:bO ga gb H):F Tryz.prog 103 [.v (.string u)] H (bn H (OD (gV u))):=by
 cases h:Lib.hasPrefix u.data.toList qC.data.toList with
 |true=>exact O0 u Ll h H hG
 |false=>
  have hr:gV u=none:=by
   unfold gV
   rw[if_pos]
   by_cases h0:u.size=0
   ·exact .inl h0
   ·refine .inr λg=>?_
    rw[(XK u).2 ⟨by omega,g⟩] at h
    cases h
  rw[hr]
  exact R6 u Ll h H
theorem H7(p:Nat)(s:ByteArray)(q d:Nat)(hs:s.size<=1000000)(hq:q<=s.size)(hu:gV (s.extract q s.size)=none)(G:Hp){ga gb:Addr}(hG:bO ga gb G)(hd:aK G [bN p s q d]):F Tryz.prog 81 [.ptr p 0] (aB G [bN p s q d]) (RO (.dH [.v (.string ⟨#[]⟩),F5 11 q]) [bN p s q d] G):=by
 have hr:=cz p s q d hs hq
 have hw:=dK p s q d 11
 have hun:=λH hG=>tQ (s.extract q s.size) (by rw[ext_size];omega) H (ga:=ga) (gb:=gb) hG
 rw[hu] at hun
 unfold bN at hd⊢
 refine aA (n:=25) (H0:=G) (M:=[(p,.box 60 (gu s q d))]) Tryz.func81 (by kernel_rfl) U (by rw[Tryz.ntmps81];rfl) hd<|?_
 refine Q.rg<|Q.as U<|Q.as U<|Q.nt<|Q.rg<|Q.mv U<|S.qu (Z.aQ U U (λhd=>hr _ (hd.at_ (k:=0) U)))<|S.qu (Z.bU U U (λH hS=>hun H (hG.mono hS)))<|Q.mv U<|S.qu (Z.ex U U)<|S.qu (Z.ex U U)<|Q.as U<|Q.as U<|Q.nt<|S.sq<|Q.rg<|Q.mv U<|Q.bi U U U<|Q.nt<|S.cT U (cZ (by omega))<|Q.rg<|Q.mv U<|S.qu (Z.aQ U U (λhd=>hw _ (hd.at_ (k:=0) U)))<|Q.as U<|Q.as U<|Q.nt<|UW.ret<|UQ.aj<|?_
 exact bD [_] (λhd=>ax U (Y U) (Y U)) (.refl _) λhd=>⟨_,hd,rfl,rfl,rfl⟩
theorem o8(p:Nat)(s:ByteArray)(q d:Nat)(hs:s.size<=1000000)(hq:q<=s.size)(t:ByteArray)(n:Nat)(hu:gV (s.extract q s.size)=some (t,n))(G:Hp){ga gb:Addr}(hG:bO ga gb G)(hd:aK G [bN p s q d]):F Tryz.prog 81 [.ptr p 0] (aB G [bN p s q d]) (RO (.dH [.v (.string t),.v .nilIface]) [bN p s (q+n) d] G):=by
 have hr:=cz p s q d hs hq
 have hun:=λH hG=>tQ (s.extract q s.size) (by rw[ext_size];omega) H (ga:=ga) (gb:=gb) hG
 have hn:=fV hu
 rw[ext_size] at hn
 rw[hu] at hun
 unfold bN at hd⊢
 refine aA (n:=25) (H0:=G) (M:=[(p,.box 60 (gu s q d))]) Tryz.func81 (by kernel_rfl) U (by rw[Tryz.ntmps81];rfl) hd<|?_
 refine Q.rg<|Q.as U<|Q.as U<|Q.nt<|Q.rg<|Q.mv U<|S.qu (Z.aQ U U (λhd=>hr _ (hd.at_ (k:=0) U)))<|S.qu (Z.bU U U (λH hS=>hun H (hG.mono hS)))<|Q.mv U<|S.qu (Z.ex U U)<|S.qu (Z.ex U U)<|Q.as U<|Q.as U<|Q.nt<|S.sq<|Q.rg<|Q.mv U<|Q.bi U U U<|Q.nt<|S.cF U (bf (by omega))<|UW.skip<|UQ.then<|Q.rg<|Q.mv U<|S.qu (Z.iC U)<|Q.fa eu U<|Q.lc 0 bC U U U<|Q.mv U<|S.qu (Z.add (r:=((q+n:Nat):Int)) U U (IntWalk.i64_in _ (by omega)))<|S.qu (Z.iC U)<|Q.fa eu U<|S.s<|D.st 0 bC U U U U U U U U λ_=>Q.nt<|Q.rg<|Q.mv U<|Q.as U<|Q.as U<|Q.nt<|UW.ret<|?_
 exact bD [_] (λhd=>ax U (Y U) (Y U)) (.refl _) λhd=>⟨_,hd,rfl,rfl,rfl⟩
end Go.Proofs.YtbooeongacgnbaaGreatDoor
end
section
namespace Go.Proofs.YtbooeongacgnbaaGreatDoor
open Go Go.gW Go.Extern Go.Extern.Stop Go.RowKit Go.Stop
theorem H8(v:Value)(w:World):(Extern.ReflectliteType.typeOf #[.iface 204 v]).run Tryz.prog w=.ok (.iface 184 (.agg #[.pointer (some ⟨9,204,none⟩)])) w:=by kernel_rfl
def V7:Array Value->Sem Value:=Extern.ReflectliteType.method λt=>do Extern.Rtype.noPackHeld "Comparable" t;pure (.bool (<-typeInfo t).comparable)
theorem xn(w:World):(V7 #[.agg #[.pointer (some ⟨9,204,none⟩)]]).run Tryz.prog w=.ok (.bool true) w:=by kernel_rfl
theorem ni(v:Value)(w:World):(Go.method 347 184 v "Comparable").run Tryz.prog w=.ok (207,v) w:=by kernel_rfl
theorem O1:(Tryz.prog.info? 204).map (·.comparable)=some true:=by kernel_rfl
theorem O3:(Tryz.prog.info? 206).map (·.size)=some 1:=by kernel_rfl
theorem TI(v:Value)(xT:TypeId)(w:World):(Instr.typeAssert (.iface 204 v) xT 186 true).run Tryz.prog w=.ok (.tuple #[.nilIface,.bool false]) w:=run_typeAssert_lacksB Tryz.underlying186 (by kernel_rfl) (by kernel_rfl) v xT w
theorem Di(v:Value)(xT:TypeId)(w:World):(Instr.typeAssert (.iface 204 v) xT 189 true).run Tryz.prog w=.ok (.tuple #[.nilIface,.bool false]) w:=run_typeAssert_lacksB Tryz.underlying189 (by kernel_rfl) (by kernel_rfl) v xT w
theorem Bj(v:Value)(xT:TypeId)(w:World):(Instr.typeAssert (.iface 204 v) xT 191 true).run Tryz.prog w=.ok (.tuple #[.nilIface,.bool false]) w:=run_typeAssert_lacksB Tryz.underlying191 (by kernel_rfl) (by kernel_rfl) v xT w
theorem TJ(v:Value)(xT:TypeId)(w:World):(Instr.typeAssert (.iface 180 v) xT 186 true).run Tryz.prog w=.ok (.tuple #[.nilIface,.bool false]) w:=run_typeAssert_lacksB Tryz.underlying186 (by kernel_rfl) (by kernel_rfl) v xT w
theorem Bl(v:Value)(xT:TypeId)(w:World):(Instr.typeAssert (.iface 180 v) xT 189 true).run Tryz.prog w=.ok (.tuple #[.iface 180 v,.bool true]) w:=run_typeAssert_hasB Tryz.underlying189 (by kernel_rfl) v xT w
theorem xq(v:Value)(w:World):(Go.method 347 180 v "Unwrap").run Tryz.prog w=.ok (203,v) w:=by kernel_rfl
theorem V8(b:Addr)(w:World):
 Calls Tryz.prog 107 #[.nilIface,.iface 204 (.pointer (some b))] w λe w'=>e=.returned (.bool false)/\w'=w:=by
 have hn:=run_eql_iface_nil_left (P:=Tryz.prog) w 204 (.pointer (some b)) Tryz.underlying62
 go_enter Tryz.func107,Tryz.ntmps107
 go_wp2
 go_ret
 exact⟨rfl,rfl⟩
theorem FL(ad:Addr)(b:Addr)(w:World)(h1:w.cell? {block:=ad.block,off:=ad.off+2}=some (.iface 204 (.pointer (some b)))):
 Calls Tryz.prog 107 #[.iface 180 (.pointer (some ad)),.iface 204 (.pointer (some b))] w λe w'=>e=.returned (.bool true)/\w'=w:=by
 obtain⟨i,hi,hcmp⟩:=Option.map_eq_some_iff.1 O1
 obtain⟨j,hj,hjs⟩:=Option.map_eq_some_iff.1 O3
 have h8:= @run_callFunc_extern Tryz.prog 132 _ Extern.ReflectliteType.typeOf Tryz.func132 (by kernel_rfl) (by kernel_rfl) (by kernel_rfl) (by kernel_rfl)
 have h32:= @run_callFunc_extern Tryz.prog 207 _ V7 Tryz.func207 (by kernel_rfl) (by kernel_rfl) (by kernel_rfl) (by kernel_rfl)
 have tT:=H8
 have cT:=xn
 have mR:=ni
 have nE:=TI
 have uE:=Di
 have vE:=Bj
 have nW:=TJ
 have uW:=Bl
 have mU:=xq
 have heq:=run_eql_iface_ptr_same (P:=Tryz.prog) w b Tryz.underlying62 Tryz.underlying204 hi hcmp hj
 have hty:=run_eql_iface_types (P:=Tryz.prog) 180 204 (.pointer (some ad)) (.pointer (some b)) Tryz.underlying62 (by decide) w
 go_enter Tryz.func107,Tryz.ntmps107
 go_wp2
 refine wp_loop_rounds 2<|?_
 rw[rounds_succ]
 go_wp2
 rw[rounds_succ]
 go_wp2
 go_ret
 exact⟨rfl,rfl⟩
theorem Cf(ad:Addr)(b a:Addr)(ca cb:Array Value)(ta tb:TypeId)(w:World)(h1:w.cell? {block:=ad.block,off:=ad.off+2}=some (.iface 204 (.pointer (some a))))(hne:a≠b)(ha:w.heap[a.block]? =some (.cells ca ta (0,0)))(hb:w.heap[b.block]? =some (.cells cb tb (0,0))):
 Calls Tryz.prog 107 #[.iface 180 (.pointer (some ad)),.iface 204 (.pointer (some b))] w λe w'=>e=.returned (.bool false)/\w'=w:=by
 obtain⟨i,hi,hcmp⟩:=Option.map_eq_some_iff.1 O1
 obtain⟨j,hj,hjs⟩:=Option.map_eq_some_iff.1 O3
 have h8:= @run_callFunc_extern Tryz.prog 132 _ Extern.ReflectliteType.typeOf Tryz.func132 (by kernel_rfl) (by kernel_rfl) (by kernel_rfl) (by kernel_rfl)
 have h32:= @run_callFunc_extern Tryz.prog 207 _ V7 Tryz.func207 (by kernel_rfl) (by kernel_rfl) (by kernel_rfl) (by kernel_rfl)
 have tT:=H8
 have cT:=xn
 have mR:=ni
 have nE:=TI
 have uE:=Di
 have vE:=Bj
 have nW:=TJ
 have uW:=Bl
 have mU:=xq
 have heq:=run_eql_iface_ptr_other (P:=Tryz.prog) w Tryz.underlying62 Tryz.underlying204 hi hcmp hj (by rw[hjs];decide) hne ha hb
 have hty:=run_eql_iface_types (P:=Tryz.prog) 180 204 (.pointer (some ad)) (.pointer (some b)) Tryz.underlying62 (by decide) w
 go_enter Tryz.func107,Tryz.ntmps107
 go_wp2
 refine wp_loop_rounds 2<|?_
 rw[rounds_succ]
 go_wp2
 rw[rounds_succ]
 go_wp2
 go_ret
 exact⟨rfl,rfl⟩
end Go.Proofs.YtbooeongacgnbaaGreatDoor
end
section
namespace Go.Proofs.YtbooeongacgnbaaGreatDoor
open Go Go.gW Go.RowKit
theorem MQ(b:Addr)(H:Hp):F Tryz.prog 107 [.v .nilIface,.v (.iface 204 (.pointer (some b)))] H (bn H (.v (.bool false))):=
 F.iU ⟨_,Tryz.func107,by kernel_rfl,by kernel_rfl⟩ λρ w vals hh hr=>by
  obtain⟨hl,hr⟩:=hr
  match vals,hl,hr with
  |[x,y],hl,hr=>
   have e1:=aP (hr 0 _ _ U U)
   have e2:=aP (hr 1 _ _ U U)
   subst e1 e2
   refine(V8 b w).mono<|?_
   rintro e w' ⟨he,rfl⟩
   exact⟨he,Below.refl _ _⟩
theorem O4{ok:Nat->Prop}{ρ:fK}{w:World}{a:ByteArray}{p x:Value}(h:dL ok ρ w (sZ a p) x):∃ad:Addr,x=.iface 180 (.pointer (some ad))/\w.cell? (ad.add 2)=some (.iface 204 p):=by
 unfold sZ at h
 cases h with
 |zk _ _ y h=>
  cases h with
  |rp _ ad vals hok hc hr=>
   refine⟨ad,rfl,?_⟩
   have h1:=hc 2 (by simp)
   have h2:=hr 2 _ U
   rw[aP h2] at h1
   exact h1.1
theorem Dj(a:ByteArray)(pa b:Addr)(r:Bool)(H:Hp)(hc:∀ρ w,dG ρ H w->∀ad:Addr,w.cell? (ad.add 2)=some (.iface 204 (.pointer (some pa)))->Calls Tryz.prog 107 #[.iface 180 (.pointer (some ad)),.iface 204 (.pointer (some b))] w λe w'=>e=.returned (.bool r)/\w'=w):
 F Tryz.prog 107 [sZ a (.pointer (some pa)),.v (.iface 204 (.pointer (some b)))] H (bn H (.v (.bool r))):=
 F.iU ⟨_,Tryz.func107,by kernel_rfl,by kernel_rfl⟩ λρ w vals hh hr=>by
  obtain⟨hl,hr⟩:=hr
  match vals,hl,hr with
  |[x,y],hl,hr=>
   obtain⟨ad,e1,h1⟩:=O4 (hr 0 _ _ rfl rfl)
   have e2:=aP (hr 1 _ _ U U)
   subst e1 e2
   refine(hc ρ w hh ad h1).mono<|?_
   rintro e w' ⟨he,rfl⟩
   exact⟨he,Below.refl _ _⟩
theorem Kl(r:Int)(H:Hp):F Tryz.prog 105 [.v (.int .i32 r)] H (bn H (.v (.bool (decide (r<48)||decide (57<r))))):=by
 by_cases h1:r<48
 ·rw[decide_eq_true h1,Bool.true_or]
  refine aA (n:=9) (H0:=H) (M:=[]) Tryz.func105 (by kernel_rfl) U (by rw[Tryz.ntmps105];rfl) .nil<|?_
  refine Q.rg<|Q.as U<|Q.nt<|Q.rg<|Q.mv U<|Q.bi U U U<|Q.mv U<|S.tT 5 (decide_eq_true (by omega))<|Q.of<|Q.of<|Q.pk U U<|Q.as U<|Q.nt<|UW.ret<|S.bG (λ_=>au U U)<|?_
  rfl
 ·rw[decide_eq_false h1,Bool.false_or]
  by_cases h2:57<r
  ·rw[decide_eq_true h2]
   refine aA (n:=9) (H0:=H) (M:=[]) Tryz.func105 (by kernel_rfl) U (by rw[Tryz.ntmps105];rfl) .nil<|?_
   refine Q.rg<|Q.as U<|Q.nt<|Q.rg<|Q.mv U<|Q.bi U U U<|Q.mv U<|S.tF 5 (decide_eq_false (by omega))<|Q.on (Z.mv U)<|Q.on (Z.tT (Z.bi U U U) (decide_eq_true h2))<|Q.pk U U<|Q.as U<|Q.nt<|UW.ret<|S.bG (λ_=>au U U)<|?_
   rfl
  ·rw[decide_eq_false h2]
   refine aA (n:=9) (H0:=H) (M:=[]) Tryz.func105 (by kernel_rfl) U (by rw[Tryz.ntmps105];rfl) .nil<|?_
   refine Q.rg<|Q.as U<|Q.nt<|Q.rg<|Q.mv U<|Q.bi U U U<|Q.mv U<|?_
   refine S.tD 5 (λXE=>?_) (λXE=>?_)
   omega
   refine Q.on (Z.mv U)<|Q.on (Z.tF (Z.bi U U U) (decide_eq_false h2))<|Q.pk U U<|Q.as U<|Q.nt<|UW.ret<|S.bG (λ_=>au U U)<|?_
   rfl
def TK(u:ByteArray):Int:=if aT u 0<u.size then(aT u 0:Int) else-1
theorem sN{u:ByteArray}{k:Nat}(h:k<u.size):aT u k=if AO (aO u (k:Int))=true then aT u (k+1)+1 else 0:=by rw[aT,dif_pos h]
theorem rO{u:ByteArray}{k:Nat}(h:¬k<u.size):aT u k=0:=by rw[aT,dif_neg h]
theorem Bn(u:ByteArray)(hu:u.size<=1000000)(H:Hp):F Tryz.prog 129 [.v (.string u),.lW 105 [],.v (.bool true)] H (bn H (.v (.int .i64 (TK u)))):=by
 have hnd:=Kl
 refine aA (n:=21) (H0:=H) (M:=[]) Tryz.func129 (by kernel_rfl) U (by rw[Tryz.ntmps129];rfl) .nil<|?_
 refine Q.rg<|Q.as U<|Q.nt<|S.sq<|Q.rg<|Q.mv U<|S.dd<|D.rg Tryz.underlying9 U λxG=>Q.nt<|UW.block<|S.loop (λk:Nat=>[(10,.ptr xG 0),(2,.v (.bool true)),(1,.lW 105 [])]) (λk=>[(xG,.iter u k)]) (λk=>k<=u.size/\k+aT u k=aT u 0) (λk=>u.size-k) 0 ⟨Nat.zero_le _,by rw[Nat.zero_add]⟩ ⟨rfl,rfl,rfl,trivial⟩ (.refl _)<|?_
 rintro k ⟨hk,hdk⟩
 by_cases hlt:k<u.size
 ·have hb:=gG u (k:Int)
  have hbk:=jb u k hlt
  have hst:=sN hlt
  by_cases hdg:AO (aO u (k:Int))=true
  ·rw[if_pos hdg] at hst
   have hd9:=sJ.1 hdg
   have hd:=nX (u:=u) hlt (by have:((u[k]'hlt).toNat:Int)=aO u (k:Int):=hbk.symm;omega)
   have hbb:((u[k]'hlt).toNat:Int)=aO u (k:Int):=hbk.symm
   generalize (u[k]'hlt).toNat=b at*
   have hn:=hnd (b:Int)
   rw[decide_eq_false (show ¬(b:Int)<48 by omega),decide_eq_false (show ¬57<(b:Int) by omega)] at hn
   have hJ:k+1<=u.size/\k+1+aT u (k+1)=aT u 0:=⟨hlt,by omega⟩
   refine Q.rg<|S.dd<|D.nx (aL:=[(xG,.iter u (k+1))]) 0 U U (by omega) (by rw[hd];rfl)<|?_
   rw[hd]
   refine S.qu (Z.ex U U)<|Q.nt<|S.sq<|S.cT U U<|UW.skip<|UQ.then<|UW.block<|Q.rg<|S.qu (Z.ex U U)<|S.qu (Z.ex U U)<|Q.as U<|Q.as U<|Q.nt<|Q.rg<|Q.mv U<|Q.mv U<|S.qu (Z.call U U (λH=>hn H))<|Q.mv U<|S.qu (Z.beq Tryz.underlying4 U U)<|Q.nt<|?_
   refine S.cE U (λhc19=>?_) (λhc19=>?_)
   contradiction
   refine UW.skip<|UQ.aI<|?_
   refine S.back (k+1) ⟨rfl,rfl,rfl,trivial⟩ (.refl _) (by omega) (by omega)
  ·rw[if_neg hdg] at hst
   have hix:TK u=(k:Int):=by unfold TK;rw[if_pos (by omega)];omega
   rw[hix]
   have hnh:∀r:Int,(r<48\/57<r)->∀H,F Tryz.prog 105 [.v (.int .i32 r)] H (bn H (.v (.bool true))):=λr hr H=>by
    have:=hnd r H
    rwa [show(decide (r<48)||decide (57<r))=true from by rcases hr with h|h<;>simp[h]] at this
   have hrr:((Utf8.decode u k).1:Int)<48\/57<((Utf8.decode u k).1:Int):=by
    by_cases ha:aO u (k:Int)<128
    ·have hbb:((u[k]'hlt).toNat:Int)=aO u (k:Int):=hbk.symm
     rw[nX (u:=u) hlt (by omega)]
     rw[sJ] at hdg
     show((u[k]'hlt).toNat:Int)<48\/57<((u[k]'hlt).toNat:Int)
     omega
    ·have hbb:((u[k]'hlt).toNat:Int)=aO u (k:Int):=hbk.symm
     have:=(decode_high u k hlt (by omega)).1
     omega
   have hn:=hnh _ hrr
   generalize hd:Utf8.decode u k=dd at*
   obtain⟨r,w⟩:=dd
   dsimp only at hn
   focus
    refine Q.rg<|S.dd<|D.nx (aL:=[(xG,.iter u (k+w))]) 0 U U (by omega) (by rw[hd];rfl)<|?_
    rw[hd]
    refine S.qu (Z.ex U U)<|Q.nt<|S.sq<|S.cT U U<|UW.skip<|UQ.then<|UW.block<|Q.rg<|S.qu (Z.ex U U)<|S.qu (Z.ex U U)<|Q.as U<|Q.as U<|Q.nt<|Q.rg<|Q.mv U<|Q.mv U<|S.qu (Z.call U U (λH=>hn H))<|Q.mv U<|S.qu (Z.beq Tryz.underlying4 U U)<|Q.nt<|?_
    refine S.cE U (λhc19=>?_) (λhc19=>?_)
    rotate_left
    contradiction
    refine Q.rg<|Q.mv U<|Q.as U<|Q.nt<|UW.ret<|UQ.az<|UQ.aj<|UQ.az<|UQ.aj<|S.bG (λ_=>au U U)<|?_
    rfl
 ·have h0:=rO hlt
  have hix:TK u= -1:=by unfold TK;rw[if_neg (by omega)]
  rw[hix]
  refine Q.rg<|S.dd<|D.WZ 0 U U (by omega)<|S.qu (Z.ex U U)<|Q.nt<|S.sq<|S.cF U U<|UW.exit<|UQ.pass<|UQ.pass<|UQ.here<|UQ.then<|Q.rg<|Q.as U<|Q.nt<|UW.ret<|S.bG (λ_=>au U U)<|?_
  rfl
theorem zg(u:ByteArray)(hu:u.size<=1000000)(H:Hp):F Tryz.prog 104 [.v (.string u),.lW 105 []] H (bn H (.v (.int .i64 (TK u)))):=by
 have hi:=Bn u hu
 refine aA (n:=8) (H0:=H) (M:=[]) Tryz.func104 (by kernel_rfl) U (by rw[Tryz.ntmps104];rfl) .nil<|?_
 refine Q.rg<|Q.as U<|Q.nt<|Q.rg<|Q.mv U<|Q.mv U<|S.qu (Z.call U U (λH=>hi H))<|Q.as U<|Q.nt<|UW.ret<|S.bG (λ_=>au U U)<|?_
 rfl
end Go.Proofs.YtbooeongacgnbaaGreatDoor
end
