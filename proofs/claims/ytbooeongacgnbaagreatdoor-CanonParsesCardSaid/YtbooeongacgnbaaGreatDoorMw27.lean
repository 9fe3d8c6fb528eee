/- A part of the proof. -/
import Derived.Test.YtbooeongacgnbaaGreatDoorMw26
import Derived.Test.YtbooeongacgnbaaGreatDoorMw24
set_option maxRecDepth 100000
set_option maxHeartbeats 4000000
set_option linter.unusedSectionVars false
set_option linter.unusedVariables false
set_option linter.unusedSimpArgs false
section
namespace Go.Proofs.YtbooeongacgnbaaGreatDoor
open Go Go.gW Go.RowKit
theorem Cc(a:ByteArray)(hs:a.size<=140737488355)(H:Hp){ga gb:Addr}(hG:bO ga gb H):F Tryz.prog 164 [.v (.string a)] H (bn H (.v (.string ⟨(Lib.toLowerD a.data.toList).toArray⟩))):=
 F.iU ⟨_,Tryz.func164,by kernel_rfl,by kernel_rfl⟩ λρ w vals hh hr=>by
  obtain⟨hl,hr⟩:=hr
  match vals,hl,hr with
  |[x],hl,hr=>
   have e1:=aP (hr 0 _ _ U U)
   subst e1
   refine(Tryz.strings_ToLower_any a w (by omega) (hG.facts hh).ZL (hG.facts hh).yL).mono<|?_
   rintro e w' ⟨he,hb⟩
   exact⟨he,hb⟩
theorem FE:∀(l:List UInt8) (c:UInt8),c∉l->Lib.indexByte l c= -1:=λl c h=>indexByte_none l c λb hb e=>h (e▸hb)
theorem VW(s:ByteArray)(hs:s.size<=1000000)(hb:Lib.hasPrefix s.data.toList j4.data.toList=true)(h6:6<=s.size)(k0:Nat)(hk0:k0<4)(ha:128<=aO s ((2+k0:Nat):Int))(H:Hp){ga gb:Addr}(hG:bO ga gb H):F Tryz.prog 149 [.v (.string s)] H (bn H (zf (aR s 0))):=by
 have hbd0:=gG s ((2+k0:Nat):Int)
 rw[Df hk0 (show ed (aO s ((2+k0:Nat):Int))<0 by
  unfold ed
  rw[if_neg (by omega),if_neg (by omega),if_neg (by omega)]
  decide)]
 have hc:=ja s j4
 have hz:(s.extract 2 s.size).size=s.size-2:=by rw[ByteArray.size_extract];omega
 rw[hb,OP s hb] at hc
 obtain⟨u,hu⟩:∃u,u=(s.extract 2 s.size).extract 0 4:=⟨_,rfl⟩
 have Yi:u.size=4:=by rw[hu,ByteArray.size_extract];omega
 have hlow:=λH hG=>Cc u (by omega) H (ga:=ga) (gb:=gb) hG
 obtain⟨h1,h2⟩:=OU hu k0 hk0 h6
 have hbad:=Dg 4 (bl u) (Nat.le_of_eq Yi) ⟨_,List.getElem_mem h1,by omega⟩
 obtain⟨tl,htl⟩:∃tl:ByteArray,tl=⟨(Lib.toLowerD u.data.toList).toArray⟩:=⟨_,rfl⟩
 rw[<-htl] at hlow
 have hbad:∃j,∃h:j<tl.size,tl[j]'h∉eD.data.toList:=by
  obtain⟨c,hc,hcb⟩:=hbad
  obtain⟨j,hj,he⟩:=List.getElem_of_mem hc
  subst htl
  exact⟨j,hj,λhm=>hcb (he▸hm)⟩
 rw[hu] at hlow
 have hir:=λc h0 h1 H=>qN eD c h0 h1 H
 have hih:=λr h1 h2 H=>FD r h1 h2 H
 have hbd:=Bh
 generalize (s.extract 2 s.size)=rest at*
 refine aA (n:=39) (H0:=H) (M:=[]) Tryz.func149 (by kernel_rfl) U (by rw[Tryz.ntmps149];rfl) .nil<|?_
 refine Q.rg<|Q.as U<|Q.as U<|Q.nt<|Q.rg<|Q.mv U<|S.qu (Z.call U U (λH=>hc H))<|Q.mv U<|S.qu (Z.ex U U)<|S.qu (Z.ex U U)<|Q.as U<|Q.as U<|Q.nt<|S.sq<|Q.rg<|Q.mv U<|S.qu (Z.not U)<|Q.mv U<|S.tF 17 U<|Q.on (Z.mv U)<|Q.on (Z.fC Tryz.underlying9 U)<|Q.on (Z.bi U U U)<|Q.pk U U<|Q.nt<|S.cF U (decide_eq_false (by omega))<|UW.skip<|UQ.then<|Q.rg<|Q.as U<|Q.nt<|S.sq<|Q.rg<|Q.mv U<|S.qu (Z.slt Tryz.underlying9 U (.X9 (by omega) U) (by omega) (by omega))<|S.qu (Z.bU U U (λH hS=>hlow H (hG.mono hS)))<|S.dd<|D.rg Tryz.underlying9 U λp25=>Q.nt<|UW.block<|?_
 refine S.loop (λj:Nat×Int=>[(25,.ptr p25 0),(6,.v (.int .i32 j.2))]) (λj=>[(p25,.iter tl j.1)]) (λj=>∃i,j.1<=i/\∃h:i<tl.size,tl[i]'h∉eD.data.toList) (λj=>tl.size-j.1) (0,0) ?_ ⟨rfl,rfl,trivial⟩ (.refl _) ?_
 ·obtain⟨j,h⟩:=hbad
  exact⟨j,Nat.zero_le _,h⟩
 rintro⟨k,n⟩ ⟨i,hki,hi,hib⟩
 dsimp only at hki⊢
 have hlt:k<tl.size:=by omega
 by_cases hx:(tl[k]'hlt).toNat<128
 ·have hd:=nX hlt hx
  have hi:=hir ((tl[k]'hlt).toNat:Int) (by omega) (by omega)
  have hxe:((tl[k]'hlt).toNat:Int).toNat.toUInt8=tl[k]'hlt:=by
   rw[Int.toNat_natCast];exact UInt8.toNat_inj.1 (by simp)
  rw[hxe] at hi
  by_cases hm:tl[k]'hlt∈eD.data.toList
  ·have hge:0<=Lib.indexByte eD.data.toList (tl[k]'hlt)/\Lib.indexByte eD.data.toList (tl[k]'hlt)<16:=by
    have h1:=Lx ⟨(tl[k]'hlt).toNat,hx⟩
    have h2:∀b∈eD.data.toList,0<=Lib.indexByte eD.data.toList b/\Lib.indexByte eD.data.toList b<16:=by decide
    exact h2 _ hm
   have hJ:∃i,k+1<=i/\∃h:i<tl.size,tl[i]'h∉eD.data.toList:=⟨i,by
    rcases Nat.lt_or_ge k i with g|g
    ·exact g
    ·have:i=k:=by omega
     subst this
     exact absurd hm hib,by assumption,hib⟩
   generalize Lib.indexByte eD.data.toList (tl[k]'hlt)=hv at*
   generalize (tl[k]'hlt).toNat=r at*
   refine Q.rg<|S.dd<|D.nx 0 U U (by omega) (by rw[hd])<|?_
   rw[hd]
   refine S.qu (Z.ex U U)<|Q.nt<|S.sq<|S.cT U U<|UW.skip<|UQ.then<|UW.block<|Q.rg<|S.qu (Z.ex U U)<|Q.as U<|Q.nt<|Q.rg<|Q.mv U<|S.qu (Z.call U U (λH=>hi H))<|Q.as U<|Q.nt<|S.sq<|Q.rg<|Q.mv U<|Q.bi U U U<|Q.nt<|S.cF U (decide_eq_false (by omega))<|UW.skip<|UQ.then<|S.rg<|Q.mv U<|S.qu (Z.shl U U (by omega) U)<|Q.mv U<|S.qu (Z.cv (r:=hv) Tryz.underlying21 U (IntWalk.i32_in _ (by omega)) (by rw[Tryz.underlying3];rfl))<|?_
   refine Q.bi U U U<|Q.as U<|US.nil<|UQ.aI<|?_
   refine S.back (k+1,_) ⟨rfl,rfl,trivial⟩ (.refl _) (by omega) (by omega)
  ·rw[FE _ _ hm] at hi
   generalize (tl[k]'hlt).toNat=r at*
   refine Q.rg<|S.dd<|D.nx 0 U U (by omega) (by rw[hd])<|?_
   rw[hd]
   refine S.qu (Z.ex U U)<|Q.nt<|S.sq<|S.cT U U<|UW.skip<|UQ.then<|UW.block<|Q.rg<|S.qu (Z.ex U U)<|Q.as U<|Q.nt<|Q.rg<|Q.mv U<|S.qu (Z.call U U (λH=>hi H))<|Q.as U<|Q.nt<|S.sq<|Q.rg<|Q.mv U<|Q.bi U U U<|Q.nt<|S.cT U (decide_eq_true (by omega))<|Q.rg<|Q.as U<|Q.as U<|Q.nt<|UW.ret<|UQ.aj<|UQ.az<|UQ.aj<|UQ.az<|UQ.aj<|S.bG (λhd=>ax U (Y U) (Y U))<|?_
   rfl
 ·obtain⟨h1,h2⟩:=decode_high tl k hlt (Nat.le_of_not_lt hx)
  have h3:=VV tl k
  have hi:=hih ((Utf8.decode tl k).1:Int) (by omega) (by omega)
  generalize hd:Utf8.decode tl k=dd at*
  obtain⟨r,w⟩:=dd
  dsimp only at h1 h2 h3 hi
  refine Q.rg<|S.dd<|D.nx 0 U U (by omega) (by rw[hd])<|?_
  rw[hd]
  refine S.qu (Z.ex U U)<|Q.nt<|S.sq<|S.cT U U<|UW.skip<|UQ.then<|UW.block<|Q.rg<|S.qu (Z.ex U U)<|Q.as U<|Q.nt<|Q.rg<|Q.mv U<|S.qu (Z.call U U (λH=>hi H))<|Q.as U<|Q.nt<|S.sq<|Q.rg<|Q.mv U<|Q.bi U U U<|Q.nt<|S.cT U (decide_eq_true (by omega))<|Q.rg<|Q.as U<|Q.as U<|Q.nt<|UW.ret<|UQ.aj<|UQ.az<|UQ.aj<|UQ.az<|UQ.aj<|S.bG (λhd=>ax U (Y U) (Y U))<|?_
  rfl
theorem Bi(s:ByteArray)(hs:s.size<=1000000)(H:Hp){ga gb:Addr}(hG:bO ga gb H):F Tryz.prog 149 [.v (.string s)] H (bn H (zf (aR s 0))):=by
 by_cases h:Lib.hasPrefix s.data.toList j4.data.toList=true/\6<=s.size
 ·obtain⟨hb,h6⟩:=h
  by_cases ha:∀k,k<4->aO s ((2+k:Nat):Int)<128
  ·exact VU s hs hb h6 ha H
  ·obtain⟨k,hk⟩:=Classical.not_forall.1 ha
   obtain⟨hk4,hk⟩:=Classical.not_imp.1 hk
   exact VW s hs hb h6 k hk4 (Int.not_lt.1 hk) H hG
 ·exact VS s hs h H
def VX:Option (Int×Nat)->AV
 |none=> .dH [.v (.int .i32 0),.v (.int .i64 0)]
 |some (r,n)=> .dH [.v (.int .i32 r),.v (.int .i64 (n:Int))]
theorem FH{r:Int}(h:r<0):zf r=.dH [.v (.int .i32 0),.v (.bool false)]:=if_neg (by omega)
theorem xm{r:Int}(h:0<=r):zf r=.dH [.v (.int .i32 r),.v (.bool true)]:=if_pos h
theorem ML(u:ByteArray)(Ll:u.size<=1000000)(h1:1<u.size)(hm0:0<=eH (aO u 1))(H:Hp):F Tryz.prog 127 [.v (.string u)] H (bn H (VX (some (eH (aO u 1),2)))):=by
 have hb:=gG u 1
 have hm:=Bf (aO u 1) hb.1
 rw[xm hm0] at hm
 refine aA (n:=68) (H0:=H) (M:=[]) Tryz.func127 (by kernel_rfl) U (by rw[Tryz.ntmps127];rfl) .nil<|?_
 refine Q.rg<|Q.as U<|Q.as U<|Q.nt<|S.sq<|Q.rg<|Q.mv U<|S.qu (Z.fC Tryz.underlying9 U)<|Q.bi U U U<|Q.nt<|S.cT U (decide_eq_true (by omega))<|Q.rg<|Q.mv U<|S.dd<|D.ib Tryz.underlying9 U U (by omega) (by omega) λMe=>S.qu (Z.cv (r:=aO u 1) Tryz.underlying21 U (IntWalk.i32_in _ (by omega)) (by rw[Tryz.underlying5];rfl))<|?_
 refine S.qu (Z.call U U (λH=>hm H))<|Q.mv U<|S.qu (Z.ex U U)<|S.qu (Z.ex U U)<|Q.as U<|Q.as U<|Q.nt<|Q.rg<|Q.mv U<|Q.nt<|S.cT U U<|Q.rg<|Q.mv U<|Q.as U<|Q.as U<|Q.nt<|UW.ret<|UQ.aj<|S.bG (λhd=>ax U (Y U) (Y U))<|?_
 rfl
theorem MM(u:ByteArray)(Ll:u.size<=1000000)(hno:¬(1<u.size/\0<=eH (aO u 1)))(H:Hp){ga gb:Addr}(hG:bO ga gb H):F Tryz.prog 127 [.v (.string u)] H (bn H (VX (jy u 0))):=by
 have hb:=gG u 1
 have hm:∀H,1<u.size->F Tryz.prog 148 [.v (.int .i32 (aO u 1))] H (bn H (.dH [.v (.int .i32 0),.v (.bool false)])):=λH h=>by
  have:=Bf (aO u 1) hb.1 H
  rwa [FH (Int.not_le.1 λg=>hno ⟨h,g⟩)] at this
 have hu1:=λH hG=>Bi u Ll H (ga:=ga) (gb:=gb) hG
 have hbd:=lg u 0
 by_cases c0:aR u 0<0
 ·rw[OB hno (.inl c0)]
  rw[FH c0] at hu1
  refine aA (n:=68) (H0:=H) (M:=[]) Tryz.func127 (by kernel_rfl) U (by rw[Tryz.ntmps127];rfl) .nil<|?_
  refine Q.rg<|Q.as U<|Q.as U<|Q.nt<|S.sq<|Q.rg<|Q.mv U<|S.qu (Z.fC Tryz.underlying9 U)<|Q.bi U U U<|Q.nt<|?_
  refine S.cD U (λiQ=>?_) (λiQ=>?_)
  refine Q.rg<|Q.mv U<|S.dd<|D.ib Tryz.underlying9 U U (by omega) (by omega) λMe=>S.qu (Z.cv (r:=aO u 1) Tryz.underlying21 U (IntWalk.i32_in _ (by omega)) (by rw[Tryz.underlying5];rfl))<|?_
  refine S.qu (Z.call U U (λH=>hm H (by omega)))<|Q.mv U<|S.qu (Z.ex U U)<|S.qu (Z.ex U U)<|Q.as U<|Q.as U<|Q.nt<|Q.rg<|Q.mv U<|Q.nt<|S.cF U U<|UW.skip<|UQ.then<|Q.rg<|Q.mv U<|S.qu (Z.bU U U (λH hS=>hu1 H (hG.mono hS)))<|Q.mv U<|S.qu (Z.ex U U)<|S.qu (Z.ex U U)<|Q.as U<|Q.as U<|Q.nt<|S.sq<|UW.block<|Q.rg<|Q.mv U<|S.qu (Z.not U)<|Q.mv U<|S.tT 29 U<|Q.of<|Q.of<|Q.of<|Q.ou<|Q.ou<|Q.of<|Q.pk U U<|Q.as U<|Q.nt<|S.cT U U<|Q.rg<|Q.as U<|Q.as U<|Q.nt<|UW.ret<|UQ.az<|UQ.aj<|S.bG (λhd=>ax U (Y U) (Y U))<|?_
  rfl
  refine UW.skip<|UQ.then<|Q.rg<|Q.mv U<|S.qu (Z.bU U U (λH hS=>hu1 H (hG.mono hS)))<|Q.mv U<|S.qu (Z.ex U U)<|S.qu (Z.ex U U)<|Q.as U<|Q.as U<|Q.nt<|S.sq<|UW.block<|Q.rg<|Q.mv U<|S.qu (Z.not U)<|Q.mv U<|S.tT 29 U<|Q.of<|Q.of<|Q.of<|Q.ou<|Q.ou<|Q.of<|Q.pk U U<|Q.as U<|Q.nt<|S.cT U U<|Q.rg<|Q.as U<|Q.as U<|Q.nt<|UW.ret<|UQ.az<|UQ.aj<|S.bG (λhd=>ax U (Y U) (Y U))<|?_
  rfl
 ·rw[xm (Int.not_lt.1 c0)] at hu1
  by_cases c1:56320<=aR u 0/\aR u 0<=57343
  ·rw[OB hno (.inr c1)]
   generalize aR u 0=x at*
   refine aA (n:=68) (H0:=H) (M:=[]) Tryz.func127 (by kernel_rfl) U (by rw[Tryz.ntmps127];rfl) .nil<|?_
   focus
    refine Q.rg<|Q.as U<|Q.as U<|Q.nt<|S.sq<|Q.rg<|Q.mv U<|S.qu (Z.fC Tryz.underlying9 U)<|Q.bi U U U<|Q.nt<|?_
    refine S.cD U (λiQ=>?_) (λiQ=>?_)
    refine Q.rg<|Q.mv U<|S.dd<|D.ib Tryz.underlying9 U U (by omega) (by omega) λMe=>S.qu (Z.cv (r:=aO u 1) Tryz.underlying21 U (IntWalk.i32_in _ (by omega)) (by rw[Tryz.underlying5];rfl))<|?_
    refine S.qu (Z.call U U (λH=>hm H (by omega)))<|Q.mv U<|S.qu (Z.ex U U)<|S.qu (Z.ex U U)<|Q.as U<|Q.as U<|Q.nt<|Q.rg<|Q.mv U<|Q.nt<|S.cF U U<|UW.skip<|UQ.then<|Q.rg<|Q.mv U<|S.qu (Z.bU U U (λH hS=>hu1 H (hG.mono hS)))<|Q.mv U<|S.qu (Z.ex U U)<|S.qu (Z.ex U U)<|Q.as U<|Q.as U<|Q.nt<|S.sq<|UW.block<|Q.rg<|Q.mv U<|S.qu (Z.not U)<|Q.mv U<|S.tF 29 U<|Q.on (Z.mv U)<|Q.on (Z.bi U U U)<|Q.on (Z.mv U)<|?_
    refine S.tD 32 (λhc32=>?_) (λhc32=>?_)
    rotate_left
    omega
    rotate_right
    refine Q.on (Z.mv U)<|Q.on (Z.bi U U U)<|Q.on (Z.pick U U)<|Q.pk U U<|Q.as U<|Q.nt<|S.cT U (decide_eq_true (by omega))<|Q.rg<|Q.as U<|Q.as U<|Q.nt<|UW.ret<|UQ.az<|UQ.aj<|S.bG (λhd=>ax U (Y U) (Y U))<|?_
    rfl
    refine UW.skip<|UQ.then<|Q.rg<|Q.mv U<|S.qu (Z.bU U U (λH hS=>hu1 H (hG.mono hS)))<|Q.mv U<|S.qu (Z.ex U U)<|S.qu (Z.ex U U)<|Q.as U<|Q.as U<|Q.nt<|S.sq<|UW.block<|Q.rg<|Q.mv U<|S.qu (Z.not U)<|Q.mv U<|S.tF 29 U<|Q.on (Z.mv U)<|Q.on (Z.bi U U U)<|Q.on (Z.mv U)<|?_
    refine S.tD 32 (λhc32=>?_) (λhc32=>?_)
    rotate_left
    omega
    refine Q.on (Z.mv U)<|Q.on (Z.bi U U U)<|Q.on (Z.pick U U)<|Q.pk U U<|Q.as U<|Q.nt<|S.cT U (decide_eq_true (by omega))<|Q.rg<|Q.as U<|Q.as U<|Q.nt<|UW.ret<|UQ.az<|UQ.aj<|S.bG (λhd=>ax U (Y U) (Y U))<|?_
    rfl
  ·have c1':¬(aR u 0<0\/(56320<=aR u 0/\aR u 0<=57343)):=λg=>g.elim c0 c1
   by_cases c2:aR u 0<55296\/57343<aR u 0
   ·rw[Tw hno c1' c2]
    generalize aR u 0=x at*
    refine aA (n:=68) (H0:=H) (M:=[]) Tryz.func127 (by kernel_rfl) U (by rw[Tryz.ntmps127];rfl) .nil<|?_
    focus
     refine Q.rg<|Q.as U<|Q.as U<|Q.nt<|S.sq<|Q.rg<|Q.mv U<|S.qu (Z.fC Tryz.underlying9 U)<|Q.bi U U U<|Q.nt<|?_
     refine S.cD U (λiQ=>?_) (λiQ=>?_)
     refine Q.rg<|Q.mv U<|S.dd<|D.ib Tryz.underlying9 U U (by omega) (by omega) λMe=>S.qu (Z.cv (r:=aO u 1) Tryz.underlying21 U (IntWalk.i32_in _ (by omega)) (by rw[Tryz.underlying5];rfl))<|?_
     refine S.qu (Z.call U U (λH=>hm H (by omega)))<|Q.mv U<|S.qu (Z.ex U U)<|S.qu (Z.ex U U)<|Q.as U<|Q.as U<|Q.nt<|Q.rg<|Q.mv U<|Q.nt<|S.cF U U<|UW.skip<|UQ.then<|Q.rg<|Q.mv U<|S.qu (Z.bU U U (λH hS=>hu1 H (hG.mono hS)))<|Q.mv U<|S.qu (Z.ex U U)<|S.qu (Z.ex U U)<|Q.as U<|Q.as U<|Q.nt<|S.sq<|UW.block<|Q.rg<|Q.mv U<|S.qu (Z.not U)<|Q.mv U<|S.tF 29 U<|Q.on (Z.mv U)<|Q.on (Z.bi U U U)<|Q.on (Z.mv U)<|?_
     refine S.tD 32 (λhc32=>?_) (λhc32=>?_)
     refine Q.on (Z.mv U)<|Q.on (Z.bi U U U)<|Q.on (Z.pick U U)<|Q.pk U U<|Q.as U<|Q.nt<|S.cF U (decide_eq_false (by omega))<|Q.rg<|Q.mv U<|Q.bi U U U<|Q.mv U<|?_
     refine S.tD 40 (λjX=>?_) (λjX=>?_)
     omega
     refine Q.on (Z.mv U)<|Q.on (Z.bi U U U)<|Q.pk U U<|Q.as U<|Q.nt<|S.cT U (decide_eq_true (by omega))<|Q.rg<|Q.mv U<|Q.as U<|Q.as U<|Q.nt<|UW.ret<|UQ.az<|UQ.aj<|S.bG (λhd=>ax U (Y U) (Y U))<|?_
     rfl
     refine Q.of<|Q.of<|Q.on (Z.pick U U)<|Q.pk U U<|Q.as U<|Q.nt<|S.cF U U<|Q.rg<|Q.mv U<|Q.bi U U U<|Q.mv U<|?_
     refine S.tD 40 (λjX=>?_) (λjX=>?_)
     rotate_left
     omega
     rotate_right
     refine Q.of<|Q.of<|Q.pk U U<|Q.as U<|Q.nt<|S.cT U U<|Q.rg<|Q.mv U<|Q.as U<|Q.as U<|Q.nt<|UW.ret<|UQ.az<|UQ.aj<|S.bG (λhd=>ax U (Y U) (Y U))<|?_
     rfl
     refine UW.skip<|UQ.then<|Q.rg<|Q.mv U<|S.qu (Z.bU U U (λH hS=>hu1 H (hG.mono hS)))<|Q.mv U<|S.qu (Z.ex U U)<|S.qu (Z.ex U U)<|Q.as U<|Q.as U<|Q.nt<|S.sq<|UW.block<|Q.rg<|Q.mv U<|S.qu (Z.not U)<|Q.mv U<|S.tF 29 U<|Q.on (Z.mv U)<|Q.on (Z.bi U U U)<|Q.on (Z.mv U)<|?_
     refine S.tD 32 (λhc32=>?_) (λhc32=>?_)
     refine Q.on (Z.mv U)<|Q.on (Z.bi U U U)<|Q.on (Z.pick U U)<|Q.pk U U<|Q.as U<|Q.nt<|S.cF U (decide_eq_false (by omega))<|Q.rg<|Q.mv U<|Q.bi U U U<|Q.mv U<|?_
     refine S.tD 40 (λjX=>?_) (λjX=>?_)
     omega
     refine Q.on (Z.mv U)<|Q.on (Z.bi U U U)<|Q.pk U U<|Q.as U<|Q.nt<|S.cT U (decide_eq_true (by omega))<|Q.rg<|Q.mv U<|Q.as U<|Q.as U<|Q.nt<|UW.ret<|UQ.az<|UQ.aj<|S.bG (λhd=>ax U (Y U) (Y U))<|?_
     rfl
     refine Q.of<|Q.of<|Q.on (Z.pick U U)<|Q.pk U U<|Q.as U<|Q.nt<|S.cF U U<|Q.rg<|Q.mv U<|Q.bi U U U<|Q.mv U<|?_
     refine S.tD 40 (λjX=>?_) (λjX=>?_)
     rotate_left
     omega
     refine Q.of<|Q.of<|Q.pk U U<|Q.as U<|Q.nt<|S.cT U U<|Q.rg<|Q.mv U<|Q.as U<|Q.as U<|Q.nt<|UW.ret<|UQ.az<|UQ.aj<|S.bG (λhd=>ax U (Y U) (Y U))<|?_
     rfl
   ·have h6:=CY (u:=u) (by omega)
    have hb6:=lg u 6
    have Y7:=Lm u 6 h6
    have MI:=λH hG=>Bi (u.extract 6 u.size) (by rw[ByteArray.size_extract];omega) H (ga:=ga) (gb:=gb) hG
    rw[Y7] at MI
    by_cases c3:aR u 6<56320\/57343<aR u 6
    ·rw[Ty hno c1' c2 c3]
     by_cases c4:aR u 6<0
     ·rw[FH c4] at MI
      generalize aR u 0=x at*
      generalize aR u 6=y at*
      refine aA (n:=68) (H0:=H) (M:=[]) Tryz.func127 (by kernel_rfl) U (by rw[Tryz.ntmps127];rfl) .nil<|?_
      refine Q.rg<|Q.as U<|Q.as U<|Q.nt<|S.sq<|Q.rg<|Q.mv U<|S.qu (Z.fC Tryz.underlying9 U)<|Q.bi U U U<|Q.nt<|S.cT U (decide_eq_true (by omega))<|Q.rg<|Q.mv U<|S.dd<|D.ib Tryz.underlying9 U U (by omega) (by omega) λMe=>S.qu (Z.cv (r:=aO u 1) Tryz.underlying21 U (IntWalk.i32_in _ (by omega)) (by rw[Tryz.underlying5];rfl))<|?_
      refine S.qu (Z.call U U (λH=>hm H (by omega)))<|Q.mv U<|S.qu (Z.ex U U)<|S.qu (Z.ex U U)<|Q.as U<|Q.as U<|Q.nt<|Q.rg<|Q.mv U<|Q.nt<|S.cF U U<|UW.skip<|UQ.then<|Q.rg<|Q.mv U<|S.qu (Z.bU U U (λH hS=>hu1 H (hG.mono hS)))<|Q.mv U<|S.qu (Z.ex U U)<|S.qu (Z.ex U U)<|Q.as U<|Q.as U<|Q.nt<|S.sq<|UW.block<|Q.rg<|Q.mv U<|S.qu (Z.not U)<|Q.mv U<|S.tF 29 U<|Q.on (Z.mv U)<|Q.on (Z.bi U U U)<|Q.on (Z.mv U)<|?_
      refine S.tD 32 (λhc32=>?_) (λhc32=>?_)
      omega
      refine Q.of<|Q.of<|Q.on (Z.pick U U)<|Q.pk U U<|Q.as U<|Q.nt<|S.cF U U<|Q.rg<|Q.mv U<|Q.bi U U U<|Q.mv U<|?_
      refine S.tD 40 (λjX=>?_) (λjX=>?_)
      omega
      refine Q.on (Z.mv U)<|Q.on (Z.bi U U U)<|Q.pk U U<|Q.as U<|Q.nt<|S.cF U (decide_eq_false (by omega))<|UW.skip<|UQ.aI<|UQ.then<|Q.rg<|Q.mv U<|S.qu (Z.slt Tryz.underlying9 U (.lo U) (by omega) (by omega))<|S.qu (Z.bU U U (λH hS=>MI H (hG.mono hS)))<|Q.mv U<|S.qu (Z.ex U U)<|S.qu (Z.ex U U)<|Q.as U<|Q.as U<|Q.nt<|S.sq<|Q.rg<|Q.mv U<|S.qu (Z.not U)<|Q.mv U<|S.tT 53 U<|Q.of<|Q.of<|Q.pk U U<|Q.mv U<|Q.of<|Q.of<|Q.pk U U<|Q.nt<|S.cT U U<|Q.rg<|Q.as U<|Q.as U<|Q.nt<|UW.ret<|UQ.aj<|S.bG (λhd=>ax U (Y U) (Y U))<|?_
      rfl
     ·rw[xm (Int.not_lt.1 c4)] at MI
      generalize aR u 0=x at*
      generalize aR u 6=y at*
      refine aA (n:=68) (H0:=H) (M:=[]) Tryz.func127 (by kernel_rfl) U (by rw[Tryz.ntmps127];rfl) .nil<|?_
      refine Q.rg<|Q.as U<|Q.as U<|Q.nt<|S.sq<|Q.rg<|Q.mv U<|S.qu (Z.fC Tryz.underlying9 U)<|Q.bi U U U<|Q.nt<|S.cT U (decide_eq_true (by omega))<|Q.rg<|Q.mv U<|S.dd<|D.ib Tryz.underlying9 U U (by omega) (by omega) λMe=>S.qu (Z.cv (r:=aO u 1) Tryz.underlying21 U (IntWalk.i32_in _ (by omega)) (by rw[Tryz.underlying5];rfl))<|?_
      refine S.qu (Z.call U U (λH=>hm H (by omega)))<|Q.mv U<|S.qu (Z.ex U U)<|S.qu (Z.ex U U)<|Q.as U<|Q.as U<|Q.nt<|Q.rg<|Q.mv U<|Q.nt<|S.cF U U<|UW.skip<|UQ.then<|Q.rg<|Q.mv U<|S.qu (Z.bU U U (λH hS=>hu1 H (hG.mono hS)))<|Q.mv U<|S.qu (Z.ex U U)<|S.qu (Z.ex U U)<|Q.as U<|Q.as U<|Q.nt<|S.sq<|UW.block<|Q.rg<|Q.mv U<|S.qu (Z.not U)<|Q.mv U<|S.tF 29 U<|Q.on (Z.mv U)<|Q.on (Z.bi U U U)<|Q.on (Z.mv U)<|?_
      refine S.tD 32 (λhc32=>?_) (λhc32=>?_)
      omega
      refine Q.of<|Q.of<|Q.on (Z.pick U U)<|Q.pk U U<|Q.as U<|Q.nt<|S.cF U U<|Q.rg<|Q.mv U<|Q.bi U U U<|Q.mv U<|?_
      refine S.tD 40 (λjX=>?_) (λjX=>?_)
      omega
      refine Q.on (Z.mv U)<|Q.on (Z.bi U U U)<|Q.pk U U<|Q.as U<|Q.nt<|S.cF U (decide_eq_false (by omega))<|UW.skip<|UQ.aI<|UQ.then<|Q.rg<|Q.mv U<|S.qu (Z.slt Tryz.underlying9 U (.lo U) (by omega) (by omega))<|S.qu (Z.bU U U (λH hS=>MI H (hG.mono hS)))<|Q.mv U<|S.qu (Z.ex U U)<|S.qu (Z.ex U U)<|Q.as U<|Q.as U<|Q.nt<|S.sq<|Q.rg<|Q.mv U<|S.qu (Z.not U)<|Q.mv U<|S.tF 53 U<|Q.on (Z.mv U)<|Q.on (Z.bi U U U)<|Q.pk U U<|Q.mv U<|?_
      refine S.tD 57 (λVY=>?_) (λVY=>?_)
      refine Q.of<|Q.of<|Q.pk U U<|Q.nt<|S.cT U U<|Q.rg<|Q.as U<|Q.as U<|Q.nt<|UW.ret<|UQ.aj<|S.bG (λhd=>ax U (Y U) (Y U))<|?_
      rfl
      refine Q.on (Z.mv U)<|Q.on (Z.bi U U U)<|Q.pk U U<|Q.nt<|S.cT U (decide_eq_true (by omega))<|Q.rg<|Q.as U<|Q.as U<|Q.nt<|UW.ret<|UQ.aj<|S.bG (λhd=>ax U (Y U) (Y U))<|?_
      rfl
    ·rw[Tz hno c1' c2 c3]
     rw[xm (by omega)] at MI
     generalize aR u 0=x at*
     generalize aR u 6=y at*
     refine aA (n:=68) (H0:=H) (M:=[]) Tryz.func127 (by kernel_rfl) U (by rw[Tryz.ntmps127];rfl) .nil<|?_
     refine Q.rg<|Q.as U<|Q.as U<|Q.nt<|S.sq<|Q.rg<|Q.mv U<|S.qu (Z.fC Tryz.underlying9 U)<|Q.bi U U U<|Q.nt<|S.cT U (decide_eq_true (by omega))<|Q.rg<|Q.mv U<|S.dd<|D.ib Tryz.underlying9 U U (by omega) (by omega) λMe=>S.qu (Z.cv (r:=aO u 1) Tryz.underlying21 U (IntWalk.i32_in _ (by omega)) (by rw[Tryz.underlying5];rfl))<|?_
     refine S.qu (Z.call U U (λH=>hm H (by omega)))<|Q.mv U<|S.qu (Z.ex U U)<|S.qu (Z.ex U U)<|Q.as U<|Q.as U<|Q.nt<|Q.rg<|Q.mv U<|Q.nt<|S.cF U U<|UW.skip<|UQ.then<|Q.rg<|Q.mv U<|S.qu (Z.bU U U (λH hS=>hu1 H (hG.mono hS)))<|Q.mv U<|S.qu (Z.ex U U)<|S.qu (Z.ex U U)<|Q.as U<|Q.as U<|Q.nt<|S.sq<|UW.block<|Q.rg<|Q.mv U<|S.qu (Z.not U)<|Q.mv U<|S.tF 29 U<|Q.on (Z.mv U)<|Q.on (Z.bi U U U)<|Q.on (Z.mv U)<|?_
     refine S.tD 32 (λhc32=>?_) (λhc32=>?_)
     omega
     refine Q.of<|Q.of<|Q.on (Z.pick U U)<|Q.pk U U<|Q.as U<|Q.nt<|S.cF U U<|Q.rg<|Q.mv U<|Q.bi U U U<|Q.mv U<|?_
     refine S.tD 40 (λjX=>?_) (λjX=>?_)
     omega
     refine Q.on (Z.mv U)<|Q.on (Z.bi U U U)<|Q.pk U U<|Q.as U<|Q.nt<|S.cF U (decide_eq_false (by omega))<|UW.skip<|UQ.aI<|UQ.then<|Q.rg<|Q.mv U<|S.qu (Z.slt Tryz.underlying9 U (.lo U) (by omega) (by omega))<|S.qu (Z.bU U U (λH hS=>MI H (hG.mono hS)))<|Q.mv U<|S.qu (Z.ex U U)<|S.qu (Z.ex U U)<|Q.as U<|Q.as U<|Q.nt<|S.sq<|Q.rg<|Q.mv U<|S.qu (Z.not U)<|Q.mv U<|S.tF 53 U<|Q.on (Z.mv U)<|Q.on (Z.bi U U U)<|Q.pk U U<|Q.mv U<|?_
     refine S.tD 57 (λVY=>?_) (λVY=>?_)
     omega
     refine Q.on (Z.mv U)<|Q.on (Z.bi U U U)<|Q.pk U U<|Q.nt<|S.cF U (decide_eq_false (by omega))<|UW.skip<|UQ.then<|Q.rg<|Q.mv U<|S.qu (Z.sub (r:=x-55296) U U (IntWalk.i32_in _ (by omega)))<|S.qu (Z.shl (r:=1024*(x-55296)) U U (by decide) (by rw[show(x-55296)*2^min (10:Int).toNat IntKind.i32.bits=1024*(x-55296) from by show(x-55296)*2^10=_;omega];exact IntWalk.i32_in _ (by omega)))<|?_
     refine S.qu (Z.add (r:=65536+1024*(x-55296)) U U (IntWalk.i32_in _ (by omega)))<|Q.mv U<|S.qu (Z.sub (r:=y-56320) U U (IntWalk.i32_in _ (by omega)))<|S.qu (Z.add (r:=65536+1024*(x-55296)+y-56320) U U (Eq.trans (IntWalk.i32_in _ (by omega)) (by omega)))<|Q.as U<|Q.as U<|Q.nt<|UW.ret<|S.bG (λhd=>ax U (Y U) (Y U))<|?_
     rfl
theorem FI(u:ByteArray)(Ll:u.size<=1000000)(H:Hp){ga gb:Addr}(hG:bO ga gb H):F Tryz.prog 127 [.v (.string u)] H (bn H (VX (jy u 0))):=by
 by_cases h:1<u.size/\0<=eH (aO u 1)
 ·rw[Tv h];exact ML u Ll h.1 h.2 H
 ·exact MM u Ll h H hG
end Go.Proofs.YtbooeongacgnbaaGreatDoor
end
