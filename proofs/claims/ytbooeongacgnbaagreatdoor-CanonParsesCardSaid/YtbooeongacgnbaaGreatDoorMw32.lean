/- A part of the proof. -/
import Derived.Test.YtbooeongacgnbaaGreatDoorMw31
import Derived.Test.YtbooeongacgnbaaGreatDoorMw21
import Derived.Test.YtbooeongacgnbaaGreatDoorMw24
set_option maxRecDepth 100000
set_option maxHeartbeats 4000000
set_option linter.unusedSectionVars false
set_option linter.unusedVariables false
set_option linter.unusedSimpArgs false
section
namespace Go.Proofs.YtbooeongacgnbaaGreatDoor
open Go Go.gW Go.RowKit
theorem Zd(s:ByteArray):Lib.hasPrefix s.data.toList jq.data.toList=true↔2<=s.size/\aO s 0=45/\aO s 1=48:=by
 have h0:∀h:0<(bl s).length,aO s ((0:Nat):Int)=(((bl s)[0]'h).toNat:Int):=λh=>jb s 0 h
 have h1:∀h:1<(bl s).length,aO s ((1:Nat):Int)=(((bl s)[1]'h).toNat:Int):=λh=>jb s 1 h
 show Lib.hasPrefix (bl s) [45,48]=true↔2<=(bl s).length/\_
 unfold Lib.hasPrefix
 generalize bl s=l at*
 match l,h0,h1 with
 |[],_,_=>simp
 |[a],_,_=>simp[List.isPrefixOf]
 |a::b::r,h0,h1=>
  have e0:=h0 (by simp)
  have e1:=h1 (by simp)
  have e0:aO s 0=((a.toNat:Nat):Int):=e0
  have e1:aO s 1=((b.toNat:Nat):Int):=e1
  rw[e0,e1]
  simp only[List.isPrefixOf,Bool.and_true,Bool.and_eq_true,beq_iff_eq,List.length_cons]
  constructor
  ·rintro⟨rfl,rfl⟩;exact⟨by omega,rfl,rfl⟩
  ·rintro⟨_,h2,h3⟩
   exact⟨UInt8.toNat_inj.1 (by have:(45:UInt8).toNat=45:=rfl;omega),UInt8.toNat_inj.1 (by have:(48:UInt8).toNat=48:=rfl;omega)⟩
def TM(p:Nat)(s:ByteArray)(d:Nat)(G:Hp):PR->AV->Hp->Prop
 | .err e r=>RO (.dH [.agg (aN zeroV),F5 e r]) [bN p s r d] G
 | .ok r v=>RO (.dH [.agg (aN v),.v .nilIface]) [bN p s r d] G
theorem R9{c:Int}(h0:0<=c)(h1:c<256):0<=Lib.indexByte MU.data.toList c.toNat.toUInt8↔(c=46\/c=101\/c=69):=by
 have:=Wd ⟨c.toNat,by omega⟩
 dsimp only at this
 show 0<=Lib.indexByte [46,101,69] (UInt8.ofNat c.toNat)↔_
 rw[this]
 omega
theorem We{ga gb:Addr}(a:ByteArray):∀H,bO ga gb H->F Tryz.prog 107 [sZ a (.pointer (some ga)),.v (.iface 204 (.pointer (some ga)))] H (bn H (.v (.bool true))):=λH hG=>
 Dj a ga ga true H λρ w hh ad hc=>by
  exact FL ad ga w hc
theorem Sa{ga gb:Addr}(a:ByteArray):∀H,bO ga gb H->F Tryz.prog 107 [sZ a (.pointer (some gb)),.v (.iface 204 (.pointer (some ga)))] H (bn H (.v (.bool false))):=λH hG=>
 Dj a gb ga false H λρ w hh ad hc=>by
  obtain⟨ca,ta,h1⟩:=(hG.facts hh).ca
  obtain⟨cb,tb,h2⟩:=(hG.facts hh).cb
  exact Cf ad ga gb cb ca tb ta w hc (hG.facts hh).ne h2 h1
theorem O9(s:ByteArray)(q e:Nat)(h:q+e<=s.size):bl ((s.extract q s.size).extract 0 e)=((bl s).drop q).take e:=by
 rw[bZ,bZ,List.drop_zero,List.take_take]
 have:min (e-0) (s.size-q)=e:=by omega
 rw[this]
theorem FN(p:Nat)(s:ByteArray)(q d:Nat)(hs:s.size<=1000000)(hq:q<=s.size)(h4:bT s q 45=true\/0<aT s q)(G:Hp){ga gb:Addr}(hG:bO ga gb G)(hd:aK G [bN p s q d]):F Tryz.prog 83 [.ptr p 0] (aB G [bN p s q d]) (TM p s d G (ko s q)):=by
 have hlt:q<s.size:=h4.elim bP λh=>by
  rcases Nat.lt_or_ge q s.size with g|g
  ·exact g
  ·rw[rO (by omega)] at h;omega
 have hzu:(s.extract q s.size).size=s.size-q:=by rw[ByteArray.size_extract];omega
 have hm:=sF s (q+1) (by omega)
 have hd1:aT (s.extract q s.size) 1=aT s (q+1):=Bo s q 1 (by omega)
 have hd2:aT ((s.extract q s.size).extract 1 (s.extract q s.size).size) 0=aT s (q+1):=by
  have:=Bo (s.extract q s.size) 1 0 (by omega)
  rw[this,hd1]
 have hz1:((s.extract q s.size).extract 1 (s.extract q s.size).size).size=s.size-q-1:=by rw[ByteArray.size_extract];omega
 have hb0:aO (s.extract q s.size) 0=aO s (q:Int):=by
  have:=jC s q 0 (by omega)
  exact this
 have hb1:q+1<s.size->aO (s.extract q s.size) 1=aO s ((q+1:Nat):Int):=λh=>jC s q 1 h
 have hix:=zg ((s.extract q s.size).extract 1 (s.extract q s.size).size) (by omega)
 obtain⟨e,he⟩:∃e,e=1+aT s (q+1):=⟨_,rfl⟩
 obtain⟨x,nD⟩:∃x,x=TK ((s.extract q s.size).extract 1 (s.extract q s.size).size):=⟨_,rfl⟩
 obtain⟨b0,hbb⟩:∃b0,Lib.hasPrefix (s.extract q s.size).data.toList jq.data.toList=b0:=⟨_,rfl⟩
 have hx2:(x+1=(e:Int)/\q+e<s.size)\/(x= -1/\q+e=s.size):=by
  rw[nD]
  unfold TK
  rw[hd2,hz1]
  split
  ·left;omega
  ·right;exact⟨rfl,by omega⟩
 have hw:xu s q e x (aO s (q:Int)) b0:=⟨hs,hq,by omega,by omega,by rw[nD];exact hix,hx2,hb0,hbb⟩
 have hpm:=Zd (s.extract q s.size)
 rw[hbb,hzu,hb0] at hpm
 have hbe:=gG (s.extract q s.size) (e:Int)
 have O6:=R9 hbe.1 hbe.2
 have XO:q+e<s.size->aO (s.extract q s.size) (e:Int)=aO s ((q+e:Nat):Int):=λh=>jC s q e h
 have hib:=λH=>rH MU (aO (s.extract q s.size) (e:Int)) H
 have ht1:=O9 s q e (by omega)
 have hts:((s.extract q s.size).extract 0 e).size<=1000000:=by rw[ByteArray.size_extract];omega
 generalize hcx:aO (s.extract q s.size) (e:Int)=cx at*
 generalize Lib.indexByte MU.data.toList cx.toNat.toUInt8=ib at*
 -- the digits' part, whatever the sign
 have key:∀(a:Nat),q<=a->a+aT s a=q+e->0<aT s a->ko s q=rG s q a->
  (b0=true↔(q<a/\aO s (a:Int)=48))->(aO s (q:Int)=48->q=a)->
  (Lib.parseIntB 64 ((s.extract q s.size).extract 0 e).data.toList=.ok (if q<a then-(jo s a (aT s a)) else jo s a (aT s a))\/
    (Lib.parseIntB 64 ((s.extract q s.size).extract 0 e).data.toList=.range/\9007199254740991<jo s a (aT s a)))->
  F Tryz.prog 83 [.ptr p 0] (aB G [bN p s q d]) (TM p s d G (ko s q)):=by
  intro a hqa hae hk hR hB hC hP
  rw[hR]
  have ha:a<=s.size:=by omega
  have hnn:=(sO s a (aT s a) (Nat.le_refl _) ha).2.2
  obtain⟨er,nv,hpi,his,hkind⟩:∃(er:AV) (nv:Int),(∀H,bO ga gb H->F Tryz.prog 106 [.v (.string ((s.extract q s.size).extract 0 e)),.v (.int .i64 10),.v (.int .i64 64)] H (bn H (.dH [.v (.int .i64 nv),er])))/\(∀H,bO ga gb H->F Tryz.prog 107 [er,.v (.iface 204 (.pointer (some ga)))] H (bn H (.v (.bool false))))/\
   ((er=.v .nilIface/\nv=(if q<a then-(jo s a (aT s a)) else jo s a (aT s a)))\/(er=sZ ((s.extract q s.size).extract 0 e) (.pointer (some gb))/\9007199254740991<jo s a (aT s a))):=by
   rcases hP with h|⟨h,h2⟩
   ·exact⟨.v .nilIface,_,λH _=>Hf _ (by omega) _ h H,λH _=>MQ ga H,.inl ⟨rfl,rfl⟩⟩
   ·exact⟨sZ ((s.extract q s.size).extract 0 e) (.pointer (some gb)),_,λH hG=>E5 _ (by omega) h H hG,Sa _,.inr ⟨rfl,h2⟩⟩
  by_cases c11:aT s a=0\/(aO s (a:Int)=48/\(1<aT s a\/q<a))
  ·rw[JP c11]
   rcases c11 with h|⟨h48,h1⟩
   ·omega
   ·by_cases XP:q<a
    ·have hb:=hB.2 ⟨XP,h48⟩
     rcases hx2 with g|g
     ·exact MX p s q d e x _ b0 hw g nv er hb G hG hpi his hd
     ·exact MZ p s q d e x _ b0 hw g nv er hb G hG hpi his hd
    ·have:a=q:=by omega
     subst this
     have hb:b0=false:=by
      cases hbv:b0 with
      |false=>rfl
      |true=>exact absurd (hB.1 hbv).1 XP
     have h11:b0=false/\aO s (a:Int)=48/\1<e:=⟨hb,h48,by omega⟩
     rcases hx2 with g|g
     ·exact M0 p s a d e x _ b0 hw g nv er h11 G hG hpi his hd
     ·exact M3 p s a d e x _ b0 hw g nv er h11 G hG hpi his hd
  ·have hno:b0=false/\(aO s (q:Int)=48->e<=1):=by
    refine⟨?_,λh48=>?_⟩
    ·cases hbv:b0 with
     |false=>rfl
     |true=>exact absurd (.inr ⟨(hB.1 hbv).2,.inr (hB.1 hbv).1⟩) c11
    ·have:=hC h48
     subst this
     have:¬1<aT s q:=λg=>c11 (.inr ⟨h48,.inl g⟩)
     omega
   have hbig:16<aT s a->9007199254740991<jo s a (aT s a):=λh=>R8 s a ha h λg=>c11 (.inr ⟨g,.inl (by omega)⟩)
   by_cases c13:(a+aT s a<s.size/\(aO s ((a+aT s a:Nat):Int)=46\/aO s ((a+aT s a:Nat):Int)=101\/aO s ((a+aT s a:Nat):Int)=69))\/16<aT s a
   ·rw[Ov c11 c13]
    rcases hkind with ⟨rfl,Cj⟩|⟨rfl,hb⟩
    ·by_cases hr:nv< -9007199254740991\/9007199254740991<nv
     ·rcases hx2 with g|g
      ·exact Dm p s q d e x _ b0 hw g nv hno hr G hG hpi his hd
      ·exact Dn p s q d e x _ b0 hw g nv hno hr G hG hpi his hd
     ·have XQ:¬16<aT s a:=λg=>by
       have:=hbig g
       apply hr
       rw[Cj]
       split<;>omega
      have hdt:=c13.resolve_right XQ
      rw[hae] at hdt
      have hcb:=XO hdt.1
      have hge:0<=ib:=O6.2 (by rw[hcb];omega)
      rcases hx2 with g|g
      ·exact M4 p s q d e x _ b0 hw g nv hno (by omega) cx hcx ib hib hge hdt.1 G hG hpi his hd
      ·omega
    ·rcases hx2 with g|g
     ·exact Dk p s q d e x _ b0 hw g nv _ _ hno G hG hpi his hd
     ·exact Dl p s q d e x _ b0 hw g nv _ _ hno G hG hpi his hd
   ·rw[Ow c11 c13]
    by_cases cm:9007199254740991<jo s a (aT s a)
    ·rw[if_pos cm]
     rcases hkind with ⟨rfl,Cj⟩|⟨rfl,hb⟩
     ·have hr:nv< -9007199254740991\/9007199254740991<nv:=by rw[Cj];split<;>omega
      rcases hx2 with g|g
      ·exact Dm p s q d e x _ b0 hw g nv hno hr G hG hpi his hd
      ·exact Dn p s q d e x _ b0 hw g nv hno hr G hG hpi his hd
     ·rcases hx2 with g|g
      ·exact Dk p s q d e x _ b0 hw g nv _ _ hno G hG hpi his hd
      ·exact Dl p s q d e x _ b0 hw g nv _ _ hno G hG hpi his hd
    ·rw[if_neg cm]
     rcases hkind with ⟨rfl,Cj⟩|⟨rfl,hb⟩
     ·have hr: -9007199254740991<=nv/\nv<=9007199254740991:=by rw[Cj];split<;>omega
      have hnd:q+e<s.size->ib<0:=λh=>by
       have hcb:=XO h
       refine Int.not_le.1 λg=>c13 (.inl ⟨by omega,?_⟩)
       rw[hae,<-hcb]
       exact O6.1 g
      rw[<-Cj,hae]
      rcases hx2 with g|g
      ·exact O7 p s q d e x _ b0 hw g nv hno hr cx hcx ib hib hnd G hG hpi his hd
      ·exact O8 p s q d e x _ b0 hw g nv hno hr cx hcx ib hib hnd G hG hpi his hd
     ·exact absurd hb cm
 cases TU:bT s q 45 with
 |true=>
  have h45:aO s (q:Int)=45:=by
   unfold bT at TU
   exact eq_of_beq (Bool.and_eq_true_iff.1 TU).2
  have hR:ko s q=rG s q (q+1):=by unfold ko;rw[if_pos TU]
  have hbl:((bl s).drop q).take e=45::((bl s).drop (q+1)).take (aT s (q+1)):=by
   rw[List.drop_eq_getElem_cons (show q<(bl s).length from hlt),he,Nat.add_comm 1,List.take_succ_cons]
   congr 1
   have:=jb s q hlt
   exact UInt8.toNat_inj.1 (by have h5:(45:UInt8).toNat=45:=rfl;omega)
  by_cases hk:0<aT s (q+1)
  ·refine key (q+1) (by omega) (by omega) hk hR ⟨λh=>⟨by omega,?_⟩,λh=>?_⟩ (λh=>by omega) ?_
   ·have:=(hpm.1 h).2.2
    rw[hb1 (by omega)] at this
    exact this
   ·refine hpm.2 ⟨by omega,h45,?_⟩
    rw[hb1 (by omega)]
    exact h.2
   ·obtain⟨g1,g2,g3⟩:=sO s (q+1) (aT s (q+1)) (Nat.le_refl _) (by omega)
    have hne:((bl s).drop (q+1)).take (aT s (q+1))≠[]:=λh=>by rw[h] at g1;simp at g1;omega
    have hpn:=MS hne g2
    generalize hdv:dv 0 (((bl s).drop (q+1)).take (aT s (q+1)))=V at*
    rw[<-hbl,<-ht1] at hpn
    rw[if_pos (by omega),g3]
    by_cases hle:V<=9223372036854775808
    ·rw[if_pos hle] at hpn;exact .inl hpn
    ·rw[if_neg hle] at hpn;exact .inr ⟨hpn,by omega⟩
  ·rw[hR,JP (.inl (by omega))]
   have hsy:Lib.parseIntB 64 ((s.extract q s.size).extract 0 e).data.toList=.«syntax» :=by
    show Lib.parseIntB 64 (bl ((s.extract q s.size).extract 0 e))=_
    rw[ht1,hbl,show aT s (q+1)=0 from by omega,List.take_zero]
    exact H9
   have hpi:=λH hG=>EZ (ga:=ga) (gb:=gb) ((s.extract q s.size).extract 0 e) (by omega) hsy H hG
   have his:=We (ga:=ga) (gb:=gb) ((s.extract q s.size).extract 0 e)
   rcases hx2 with g|g
   ·exact MV p s q d e x _ b0 hw g 0 _ G hG hpi his hd
   ·exact MW p s q d e x _ b0 hw g 0 _ G hG hpi his hd
 |false=>
  have hdq:0<aT s q:=h4.resolve_left (by rw[TU];decide)
  have hst:=sN hlt
  have hdig:AO (aO s (q:Int))=true:=by
   cases hc:AO (aO s (q:Int)) with
   |true=>rfl
   |false=>rw[hc] at hst;simp at hst;omega
  rw[hdig,if_pos U] at hst
  have hdc:=sJ.1 hdig
  have hR:ko s q=rG s q q:=by unfold ko;rw[TU,if_neg (by decide)]
  refine key q (Nat.le_refl _) (by omega) hdq hR ⟨λh=>?_,λh=>absurd h.1 (Nat.lt_irrefl _)⟩ (λ_=>rfl) ?_
  ·have:=(hpm.1 h).2.1
   omega
  ·obtain⟨g1,g2,g3⟩:=sO s q (aT s q) (Nat.le_refl _) hq
   have hne:((bl s).drop q).take (aT s q)≠[]:=λh=>by rw[h] at g1;simp at g1;omega
   have PU:=MR hne g2
   have ZT:aT s q=e:=by omega
   generalize hdv:dv 0 (((bl s).drop q).take (aT s q))=V at*
   rw[ZT] at PU hdv g3
   rw[<-ht1] at PU
   rw[ZT,if_neg (Nat.lt_irrefl q),g3]
   by_cases hle:V<9223372036854775808
   ·rw[if_pos hle] at PU;exact .inl PU
   ·rw[if_neg hle] at PU;exact .inr ⟨PU,by omega⟩
def XR(s:ByteArray)(p d:Nat):Option (ByteArray×Nat)->AV
 |none=> .dH [.agg (tq s p 11 d),.v (.string ⟨#[]⟩)]
 |some (t,n)=> .dH [.agg (dZ s (p+n) d),.v (.string t)]
theorem mg(s:ByteArray)(p d:Nat)(hs:s.size<=1000000)(hp:p<=s.size)(H:Hp):F Tryz.prog 64 [.agg (dZ s p d)] H (bn H (XR s p d (gV (s.extract p s.size)))):=by
 have hsz:(s.extract p s.size).size=s.size-p:=by rw[ByteArray.size_extract];omega
 have hu:∀H,F Tryz.prog 87 [.v (.string (s.extract p s.size))] H (bn H (OD (gV (s.extract p s.size)))):=λH=>Fw _ (by omega) H
 have hf:∀H,F Tryz.prog 44 [.agg (dZ s p d),.v (.int .i64 11)] H (bn H (.agg (tq s p 11 d))):=λH=>jJ s p d 0 11 H
 cases hq:gV (s.extract p s.size) with
 |none=>
  rw[hq] at hu
  refine aA (n:=30) (H0:=H) (M:=[]) Tryz.func64 (by kernel_rfl) U (by rw[Tryz.ntmps64];rfl) .nil<|?_
  refine Q.rg<|S.dd<|D.box U U U λp1=>S.dd<|D.al z72 U U U λp2=>Q.as U<|Q.nt<|S.sq<|Q.rg<|Q.fa dz U<|Q.lc 1 bC U U U<|Q.bi U U U<|Q.nt<|S.cF U (fE (by omega))<|UW.skip<|UQ.then<|Q.rg<|Q.fa dO U<|Q.lc 1 fJ U U U<|Q.fa bB U<|Q.lc 1 bC U U U<|S.qu (Z.slt Tryz.underlying9 U (.lo U) (by omega) (by omega))<|S.qu (Z.call U U (λH=>hu H))<|Q.mv U<|S.qu (Z.ex U U)<|S.qu (Z.ex U U)<|Q.as U<|Q.as U<|Q.nt<|S.sq<|Q.rg<|Q.mv U<|Q.bi U U U<|Q.nt<|S.cT U (cZ (by omega))<|Q.rg<|S.qu (Z.bg 1 aF U U U)<|S.qu (Z.call U U (λH=>hf H))<|S.s<|D.st 0 aF U U U U U U U U λ_=>Q.as U<|Q.nt<|UW.ret<|UQ.aj<|S.bG (λhd=>ax U (av (k:=0) hd U U fM fO) (Y U))<|?_
  rfl
 |some tn=>
  obtain⟨t,n⟩:=tn
  obtain⟨hn1,hn2⟩:=fV hq
  rw[hq] at hu
  refine aA (n:=30) (H0:=H) (M:=[]) Tryz.func64 (by kernel_rfl) U (by rw[Tryz.ntmps64];rfl) .nil<|?_
  refine Q.rg<|S.dd<|D.box U U U λp1=>S.dd<|D.al z72 U U U λp2=>Q.as U<|Q.nt<|S.sq<|Q.rg<|Q.fa dz U<|Q.lc 1 bC U U U<|Q.bi U U U<|Q.nt<|S.cF U (fE (by omega))<|UW.skip<|UQ.then<|Q.rg<|Q.fa dO U<|Q.lc 1 fJ U U U<|Q.fa bB U<|Q.lc 1 bC U U U<|S.qu (Z.slt Tryz.underlying9 U (.lo U) (by omega) (by omega))<|S.qu (Z.call U U (λH=>hu H))<|Q.mv U<|S.qu (Z.ex U U)<|S.qu (Z.ex U U)<|Q.as U<|Q.as U<|Q.nt<|S.sq<|Q.rg<|Q.mv U<|Q.bi U U U<|Q.nt<|S.cF U (bf (by omega))<|UW.skip<|UQ.then<|Q.rg<|Q.fa bB U<|Q.lc 1 bC U U U<|Q.mv U<|S.qu (Z.add (r:=((p+n:Nat):Int)) U U (IntWalk.i64_in _ (by omega)))<|Q.fa bB U<|S.s<|D.st 1 bC U U U U U U U U λ_=>Q.nt<|Q.rg<|S.qu (Z.bg 1 aF U U U)<|Q.mv U<|S.s<|D.st 0 aF U U U U U U U U λ_=>Q.as U<|Q.nt<|UW.ret<|?_
  refine S.bG (λhd=>ax U (av (k:=0) hd U U fM fO) (Y U))<|?_
  rfl
def Ze(s:ByteArray)(p d:Nat):Option (ByteArray×Nat)->AV
 |none=> .dH [.agg (tq s p 11 d),.agg (aN (BP ⟨#[]⟩))]
 |some (t,n)=> .dH [.agg (dZ s (p+n) d),.agg (aN (BP t))]
theorem Ib(s:ByteArray)(p d:Nat)(hs:s.size<=1000000)(hp:p<=s.size)(h1:bT s p 91=false)(h2:bT s p 123=false)(h3:bT s p 34=true)(H:Hp):F Tryz.prog 43 [.agg (dZ s p d)] H (bn H (Ze s p d (gV (s.extract p s.size)))):=by
 have hi:∀c H,F Tryz.prog 62 [.agg (dZ s p d),.v (.int .u8 c)] H (bn H (.v (.bool (bT s p c)))):=λc H=>ji s p d c hs H
 have hst:∀H,F Tryz.prog 64 [.agg (dZ s p d)] H (bn H (XR s p d (gV (s.extract p s.size)))):=λH=>mg s p d hs hp H
 cases hq:gV (s.extract p s.size) with
 |none=>
  rw[hq] at hst
  refine aA (n:=81) (H0:=H) (M:=[]) Tryz.func43 (by kernel_rfl) U (by rw[Tryz.ntmps43];rfl) .nil<|?_
  refine Q.rg<|S.dd<|D.box U U U λp1=>S.dd<|D.al z72 U U U λp2=>S.dd<|D.al z27 U U U λp3=>Q.nt<|S.sq<|Q.rg<|Q.fa dz U<|Q.lc 2 bC U U U<|Q.bi U U U<|Q.nt<|S.cF U (fE (by omega))<|UW.skip<|UQ.then<|S.sq<|Q.rg<|S.qu (Z.bg 2 aF U U U)<|S.qu (Z.tF (Z.call U U (λH=>hi 91 H)) h1)<|Q.mv U<|Q.on (Z.bg 2 aF U U U)<|Q.on (Z.tF (Z.call U U (λH=>hi 123 H)) h2)<|Q.pk U U<|Q.nt<|S.cF U U<|UW.skip<|UQ.then<|S.sq<|Q.rg<|S.qu (Z.bg 2 aF U U U)<|S.qu (Z.tT (Z.call U U (λH=>hi 34 H)) h3)<|Q.nt<|S.cT U U<|Q.rg<|S.qu (Z.bg 2 aF U U U)<|S.qu (Z.call U U (λH=>hst H))<|Q.mv U<|S.qu (Z.ex U U)<|S.qu (Z.ex U U)<|S.dd<|D.al z72 U U U λp7=>S.s<|D.st 0 aF U U U U U U U U λ_=>Q.as U<|Q.nt<|S.sq<|?_
  refine' UW.dC (by kernel_rfl) [0,0,2,7,15] [some 55,some 56,some 57,none,none] [some (55,_),some (56,_),some (57,_),none,none] [3,4] [0] U (by decide) (by decide) (I.held (by decide) U U ?jK (I.free (by decide) U U ?jL (I.free (by decide) U U ?u6 (I.skip (I.skip I.nil))))) ?u7
  case jK=>exact Z.bg 0 aF rfl rfl rfl
  case jL=>(intro _;exact Z.mv rfl)
  case u6=>(intro _;exact Z.call rfl rfl (λH=>CL _ H))
  refine CH.aV U U<|D.st 2 aF U U U U U U U U λ_=>CH.aV U U<|D.st 1 ay U U U U U U U U λ_=>CH.nil<|?_
  simp only[app,bV]
  refine UQ.then<|UW.ret<|UQ.aj<|S.bG (λhd=>ax U (av (k:=2) hd U U fM fO) (av (k:=1) hd U U bH bI))<|?_
  rfl
 |some tn=>
  obtain⟨t,n⟩:=tn
  rw[hq] at hst
  refine aA (n:=81) (H0:=H) (M:=[]) Tryz.func43 (by kernel_rfl) U (by rw[Tryz.ntmps43];rfl) .nil<|?_
  refine Q.rg<|S.dd<|D.box U U U λp1=>S.dd<|D.al z72 U U U λp2=>S.dd<|D.al z27 U U U λp3=>Q.nt<|S.sq<|Q.rg<|Q.fa dz U<|Q.lc 2 bC U U U<|Q.bi U U U<|Q.nt<|S.cF U (fE (by omega))<|UW.skip<|UQ.then<|S.sq<|Q.rg<|S.qu (Z.bg 2 aF U U U)<|S.qu (Z.tF (Z.call U U (λH=>hi 91 H)) h1)<|Q.mv U<|Q.on (Z.bg 2 aF U U U)<|Q.on (Z.tF (Z.call U U (λH=>hi 123 H)) h2)<|Q.pk U U<|Q.nt<|S.cF U U<|UW.skip<|UQ.then<|S.sq<|Q.rg<|S.qu (Z.bg 2 aF U U U)<|S.qu (Z.tT (Z.call U U (λH=>hi 34 H)) h3)<|Q.nt<|S.cT U U<|Q.rg<|S.qu (Z.bg 2 aF U U U)<|S.qu (Z.call U U (λH=>hst H))<|Q.mv U<|S.qu (Z.ex U U)<|S.qu (Z.ex U U)<|S.dd<|D.al z72 U U U λp7=>S.s<|D.st 0 aF U U U U U U U U λ_=>Q.as U<|Q.nt<|S.sq<|?_
  refine' UW.dC (by kernel_rfl) [0,0,2,7,15] [some 55,some 56,some 57,none,none] [some (55,_),some (56,_),some (57,_),none,none] [3,4] [0] U (by decide) (by decide) (I.held (by decide) U U ?gY (I.free (by decide) U U ?gZ (I.free (by decide) U U ?iK (I.skip (I.skip I.nil))))) ?oD
  case gY=>exact Z.bg 0 aF rfl rfl rfl
  case gZ=>(intro _;exact Z.mv rfl)
  case iK=>(intro _;exact Z.call rfl rfl (λH=>CL t H))
  refine CH.aV U U<|D.st 2 aF U U U U U U U U λ_=>CH.aV U U<|D.st 1 ay U U U U U U U U λ_=>CH.nil<|?_
  simp only[app,bV]
  refine UQ.then<|UW.ret<|UQ.aj<|S.bG (λhd=>ax U (av (k:=2) hd U U fM fO) (av (k:=1) hd U U bH bI))<|?_
  rfl
theorem Ic(s:ByteArray)(p d:Nat)(hs:s.size<=1000000)(hp:p<=s.size)(h1:bT s p 91=false)(h2:bT s p 123=false)(h3:bT s p 34=false)(h4:bT s p 45=true\/0<aT s p)(H:Hp):F Tryz.prog 43 [.agg (dZ s p d)] H (bn H (JO s d (ko s p))):=by
 have hi:∀c H,F Tryz.prog 62 [.agg (dZ s p d),.v (.int .u8 c)] H (bn H (.v (.bool (bT s p c)))):=λc H=>ji s p d c hs H
 have hdg:∀H,F Tryz.prog 66 [.agg (dZ s p d),.v (.int .i64 (p:Int))] H (bn H (.v (.int .i64 ((aT s p:Nat):Int)))):=λH=>ym s p p d hs hp H
 have hnu:∀H,F Tryz.prog 67 [.agg (dZ s p d)] H (bn H (JO s d (ko s p))):=λH=>Fa s p d hs hp H
 cases hr:ko s p with
 |err e q=>
  rw[hr] at hnu
  cases h5:bT s p 45 with
  |true=>
   refine aA (n:=81) (H0:=H) (M:=[]) Tryz.func43 (by kernel_rfl) U (by rw[Tryz.ntmps43];rfl) .nil<|?_
   refine Q.rg<|S.dd<|D.box U U U λp1=>S.dd<|D.al z72 U U U λp2=>S.dd<|D.al z27 U U U λp3=>Q.nt<|S.sq<|Q.rg<|Q.fa dz U<|Q.lc 2 bC U U U<|Q.bi U U U<|Q.nt<|S.cF U (fE (by omega))<|UW.skip<|UQ.then<|S.sq<|Q.rg<|S.qu (Z.bg 2 aF U U U)<|S.qu (Z.tF (Z.call U U (λH=>hi 91 H)) h1)<|Q.mv U<|Q.on (Z.bg 2 aF U U U)<|Q.on (Z.tF (Z.call U U (λH=>hi 123 H)) h2)<|Q.pk U U<|Q.nt<|S.cF U U<|UW.skip<|UQ.then<|S.sq<|Q.rg<|S.qu (Z.bg 2 aF U U U)<|S.qu (Z.tF (Z.call U U (λH=>hi 34 H)) h3)<|Q.nt<|S.cF U U<|UW.skip<|UQ.then<|S.sq<|Q.rg<|S.qu (Z.bg 2 aF U U U)<|S.qu (Z.tT (Z.call U U (λH=>hi 45 H)) h5)<|Q.mv U<|Q.of<|Q.of<|Q.of<|Q.of<|Q.of<|Q.pk U U<|Q.nt<|S.cT U U<|Q.rg<|S.qu (Z.bg 2 aF U U U)<|S.qu (Z.call U U (λH=>hnu H))<|Q.mv U<|?_
   refine S.qu (Z.ex U U)<|S.qu (Z.ex U U)<|S.dd<|D.al z72 U U U λp9=>S.dd<|D.al z27 U U U λxG=>S.s<|D.st 1 aF U U U U U U U U λ_=>S.s<|D.st 0 ay U U U U U U U U λ_=>Q.nt<|S.sq<|?_
   refine' UW.gF (by kernel_rfl) [0] [0,0,1,7] [some 72,some 73,none,none] [some (72,_),some (73,_),none,none] [2,3] [0] U (by decide) (by decide) (I.held (by decide) U U ?fG (I.kept (by decide) U U ?fH (I.skip (I.skip I.nil)))) ?lG
   case fG=>exact Z.bg 1 aF rfl rfl rfl
   case fH=>(intro _ hK;exact Z.kw 0 hK ay rfl rfl rfl)
   refine CH.aV U U ?_ (.c 0 U .n)
   refine D.st 3 aF U U U U U U U U λ_=>?_
   refine CH.aV U U ?_ (.c 0 U .n)
   refine D.st 2 ay U U U U U U U U λ_=>?_
   refine CH.nil ?_ (.c 0 U .n)
   simp only[app,bV]
   refine UQ.then<|UW.ret<|UQ.aj<|S.bG (λhd=>ax U (av (k:=3) hd U U fM fO) (av (k:=2) hd U U bH bI))<|?_
   rfl
  |false=>
   have h6:0<aT s p:=h4.elim (λh=>absurd (h5.symm.trans h) (by decide)) id
   refine aA (n:=81) (H0:=H) (M:=[]) Tryz.func43 (by kernel_rfl) U (by rw[Tryz.ntmps43];rfl) .nil<|?_
   refine Q.rg<|S.dd<|D.box U U U λp1=>S.dd<|D.al z72 U U U λp2=>S.dd<|D.al z27 U U U λp3=>Q.nt<|S.sq<|Q.rg<|Q.fa dz U<|Q.lc 2 bC U U U<|Q.bi U U U<|Q.nt<|S.cF U (fE (by omega))<|UW.skip<|UQ.then<|S.sq<|Q.rg<|S.qu (Z.bg 2 aF U U U)<|S.qu (Z.tF (Z.call U U (λH=>hi 91 H)) h1)<|Q.mv U<|Q.on (Z.bg 2 aF U U U)<|Q.on (Z.tF (Z.call U U (λH=>hi 123 H)) h2)<|Q.pk U U<|Q.nt<|S.cF U U<|UW.skip<|UQ.then<|S.sq<|Q.rg<|S.qu (Z.bg 2 aF U U U)<|S.qu (Z.tF (Z.call U U (λH=>hi 34 H)) h3)<|Q.nt<|S.cF U U<|UW.skip<|UQ.then<|S.sq<|Q.rg<|S.qu (Z.bg 2 aF U U U)<|S.qu (Z.tF (Z.call U U (λH=>hi 45 H)) h5)<|Q.mv U<|Q.on (Z.bg 2 aF U U U)<|Q.on (Z.fa bB U)<|Q.on (Z.dQ 2 bC U U U)<|Q.on (Z.call U U (λH=>hdg H))<|Q.on (Z.bi U U U)<|Q.pk U U<|Q.nt<|S.cT U (decide_eq_true (by omega))<|Q.rg<|S.qu (Z.bg 2 aF U U U)<|S.qu (Z.call U U (λH=>hnu H))<|Q.mv U<|?_
   refine S.qu (Z.ex U U)<|S.qu (Z.ex U U)<|S.dd<|D.al z72 U U U λp9=>S.dd<|D.al z27 U U U λxG=>S.s<|D.st 1 aF U U U U U U U U λ_=>S.s<|D.st 0 ay U U U U U U U U λ_=>Q.nt<|S.sq<|?_
   refine' UW.gF (by kernel_rfl) [0] [0,0,1,7] [some 72,some 73,none,none] [some (72,_),some (73,_),none,none] [2,3] [0] U (by decide) (by decide) (I.held (by decide) U U ?ic (I.kept (by decide) U U ?ig (I.skip (I.skip I.nil)))) ?oF
   case ic=>exact Z.bg 1 aF rfl rfl rfl
   case ig=>(intro _ hK;exact Z.kw 0 hK ay rfl rfl rfl)
   refine CH.aV U U ?_ (.c 0 U .n)
   refine D.st 3 aF U U U U U U U U λ_=>?_
   refine CH.aV U U ?_ (.c 0 U .n)
   refine D.st 2 ay U U U U U U U U λ_=>?_
   refine CH.nil ?_ (.c 0 U .n)
   simp only[app,bV]
   refine UQ.then<|UW.ret<|UQ.aj<|S.bG (λhd=>ax U (av (k:=3) hd U U fM fO) (av (k:=2) hd U U bH bI))<|?_
   rfl
 |ok q v=>
  rw[hr] at hnu
  cases h5:bT s p 45 with
  |true=>
   refine aA (n:=81) (H0:=H) (M:=[]) Tryz.func43 (by kernel_rfl) U (by rw[Tryz.ntmps43];rfl) .nil<|?_
   refine Q.rg<|S.dd<|D.box U U U λp1=>S.dd<|D.al z72 U U U λp2=>S.dd<|D.al z27 U U U λp3=>Q.nt<|S.sq<|Q.rg<|Q.fa dz U<|Q.lc 2 bC U U U<|Q.bi U U U<|Q.nt<|S.cF U (fE (by omega))<|UW.skip<|UQ.then<|S.sq<|Q.rg<|S.qu (Z.bg 2 aF U U U)<|S.qu (Z.tF (Z.call U U (λH=>hi 91 H)) h1)<|Q.mv U<|Q.on (Z.bg 2 aF U U U)<|Q.on (Z.tF (Z.call U U (λH=>hi 123 H)) h2)<|Q.pk U U<|Q.nt<|S.cF U U<|UW.skip<|UQ.then<|S.sq<|Q.rg<|S.qu (Z.bg 2 aF U U U)<|S.qu (Z.tF (Z.call U U (λH=>hi 34 H)) h3)<|Q.nt<|S.cF U U<|UW.skip<|UQ.then<|S.sq<|Q.rg<|S.qu (Z.bg 2 aF U U U)<|S.qu (Z.tT (Z.call U U (λH=>hi 45 H)) h5)<|Q.mv U<|Q.of<|Q.of<|Q.of<|Q.of<|Q.of<|Q.pk U U<|Q.nt<|S.cT U U<|Q.rg<|S.qu (Z.bg 2 aF U U U)<|S.qu (Z.call U U (λH=>hnu H))<|Q.mv U<|?_
   refine S.qu (Z.ex U U)<|S.qu (Z.ex U U)<|S.dd<|D.al z72 U U U λp9=>S.dd<|D.al z27 U U U λxG=>S.s<|D.st 1 aF U U U U U U U U λ_=>S.s<|D.l8 0 ay U U U U (by exact aH _) (ak _) U U λ_=>?_
   refine Q.nt<|S.sq<|?_
   refine' UW.gF (by kernel_rfl) [0] [0,0,1,7] [some 72,some 73,none,none] [some (72,_),some (73,_),none,none] [2,3] [0] U (by decide) (by decide) (I.held (by decide) U U ?kE (I.kept (by decide) U U ?kF (I.skip (I.skip I.nil)))) ?xY
   case kE=>exact Z.bg 1 aF rfl rfl rfl
   case kF=>(intro _ hK;exact Z.kw 0 hK ay rfl rfl (ak _))
   refine CH.aV U U ?_ (.c 0 U .n)
   refine D.st 3 aF U U U U U U U U λ_=>?_
   refine CH.aV U U ?_ (.c 0 U .n)
   refine D.l8 2 ay U U U U (by exact aH _) (ak _) U U λ_=>?_
   refine CH.nil ?_ (.c 0 U .n)
   simp only[app,bV]
   refine UQ.then<|UW.ret<|UQ.aj<|S.bG (λhd=>ax U (av (k:=3) hd U U fM fO) (av (k:=2) hd U U bH (by rw[ak];exact bI)))<|?_
   rfl
  |false=>
   have h6:0<aT s p:=h4.elim (λh=>absurd (h5.symm.trans h) (by decide)) id
   refine aA (n:=81) (H0:=H) (M:=[]) Tryz.func43 (by kernel_rfl) U (by rw[Tryz.ntmps43];rfl) .nil<|?_
   refine Q.rg<|S.dd<|D.box U U U λp1=>S.dd<|D.al z72 U U U λp2=>S.dd<|D.al z27 U U U λp3=>Q.nt<|S.sq<|Q.rg<|Q.fa dz U<|Q.lc 2 bC U U U<|Q.bi U U U<|Q.nt<|S.cF U (fE (by omega))<|UW.skip<|UQ.then<|S.sq<|Q.rg<|S.qu (Z.bg 2 aF U U U)<|S.qu (Z.tF (Z.call U U (λH=>hi 91 H)) h1)<|Q.mv U<|Q.on (Z.bg 2 aF U U U)<|Q.on (Z.tF (Z.call U U (λH=>hi 123 H)) h2)<|Q.pk U U<|Q.nt<|S.cF U U<|UW.skip<|UQ.then<|S.sq<|Q.rg<|S.qu (Z.bg 2 aF U U U)<|S.qu (Z.tF (Z.call U U (λH=>hi 34 H)) h3)<|Q.nt<|S.cF U U<|UW.skip<|UQ.then<|S.sq<|Q.rg<|S.qu (Z.bg 2 aF U U U)<|S.qu (Z.tF (Z.call U U (λH=>hi 45 H)) h5)<|Q.mv U<|Q.on (Z.bg 2 aF U U U)<|Q.on (Z.fa bB U)<|Q.on (Z.dQ 2 bC U U U)<|Q.on (Z.call U U (λH=>hdg H))<|Q.on (Z.bi U U U)<|Q.pk U U<|Q.nt<|S.cT U (decide_eq_true (by omega))<|Q.rg<|S.qu (Z.bg 2 aF U U U)<|S.qu (Z.call U U (λH=>hnu H))<|Q.mv U<|?_
   refine S.qu (Z.ex U U)<|S.qu (Z.ex U U)<|S.dd<|D.al z72 U U U λp9=>S.dd<|D.al z27 U U U λxG=>S.s<|D.st 1 aF U U U U U U U U λ_=>S.s<|D.l8 0 ay U U U U (by exact aH _) (ak _) U U λ_=>?_
   refine Q.nt<|S.sq<|?_
   refine' UW.gF (by kernel_rfl) [0] [0,0,1,7] [some 72,some 73,none,none] [some (72,_),some (73,_),none,none] [2,3] [0] U (by decide) (by decide) (I.held (by decide) U U ?uX (I.kept (by decide) U U ?uY (I.skip (I.skip I.nil)))) ?JY
   case uX=>exact Z.bg 1 aF rfl rfl rfl
   case uY=>(intro _ hK;exact Z.kw 0 hK ay rfl rfl (ak _))
   refine CH.aV U U ?_ (.c 0 U .n)
   refine D.st 3 aF U U U U U U U U λ_=>?_
   refine CH.aV U U ?_ (.c 0 U .n)
   refine D.l8 2 ay U U U U (by exact aH _) (ak _) U U λ_=>?_
   refine CH.nil ?_ (.c 0 U .n)
   simp only[app,bV]
   refine UQ.then<|UW.ret<|UQ.aj<|S.bG (λhd=>ax U (av (k:=3) hd U U fM fO) (av (k:=2) hd U U bH (by rw[ak];exact bI)))<|?_
   rfl
theorem Ie(s:ByteArray)(p d:Nat)(hs:s.size<=1000000)(hp:p<=s.size)(h1:bT s p 91=false)(h2:bT s p 123=false)(h3:bT s p 34=false)(h4:bT s p 45=false)(h5:aT s p=0)(H:Hp):F Tryz.prog 43 [.agg (dZ s p d)] H (bn H (JO s d (eG s p))):=by
 have hi:∀c H,F Tryz.prog 62 [.agg (dZ s p d),.v (.int .u8 c)] H (bn H (.v (.bool (bT s p c)))):=λc H=>ji s p d c hs H
 have hdg:∀H,F Tryz.prog 66 [.agg (dZ s p d),.v (.int .i64 (p:Int))] H (bn H (.v (.int .i64 ((aT s p:Nat):Int)))):=λH=>ym s p p d hs hp H
 have hwo:∀H,F Tryz.prog 68 [.agg (dZ s p d)] H (bn H (JO s d (eG s p))):=λH=>JR s p d hs hp H
 cases hr:eG s p with
 |err e q=>
  rw[hr] at hwo
  refine aA (n:=81) (H0:=H) (M:=[]) Tryz.func43 (by kernel_rfl) U (by rw[Tryz.ntmps43];rfl) .nil<|?_
  refine Q.rg<|S.dd<|D.box U U U λp1=>S.dd<|D.al z72 U U U λp2=>S.dd<|D.al z27 U U U λp3=>Q.nt<|S.sq<|Q.rg<|Q.fa dz U<|Q.lc 2 bC U U U<|Q.bi U U U<|Q.nt<|S.cF U (fE (by omega))<|UW.skip<|UQ.then<|S.sq<|Q.rg<|S.qu (Z.bg 2 aF U U U)<|S.qu (Z.tF (Z.call U U (λH=>hi 91 H)) h1)<|Q.mv U<|Q.on (Z.bg 2 aF U U U)<|Q.on (Z.tF (Z.call U U (λH=>hi 123 H)) h2)<|Q.pk U U<|Q.nt<|S.cF U U<|UW.skip<|UQ.then<|S.sq<|Q.rg<|S.qu (Z.bg 2 aF U U U)<|S.qu (Z.tF (Z.call U U (λH=>hi 34 H)) h3)<|Q.nt<|S.cF U U<|UW.skip<|UQ.then<|S.sq<|Q.rg<|S.qu (Z.bg 2 aF U U U)<|S.qu (Z.tF (Z.call U U (λH=>hi 45 H)) h4)<|Q.mv U<|Q.on (Z.bg 2 aF U U U)<|Q.on (Z.fa bB U)<|Q.on (Z.dQ 2 bC U U U)<|Q.on (Z.call U U (λH=>hdg H))<|Q.on (Z.bi U U U)<|Q.pk U U<|Q.nt<|S.cF U (decide_eq_false (by omega))<|UW.skip<|UQ.then<|Q.rg<|S.qu (Z.bg 2 aF U U U)<|S.qu (Z.call U U (λH=>hwo H))<|Q.mv U<|?_
  refine S.qu (Z.ex U U)<|S.qu (Z.ex U U)<|S.dd<|D.al z72 U U U λWh=>S.dd<|D.al z27 U U U λWH=>S.s<|D.st 1 aF U U U U U U U U λ_=>S.s<|D.st 0 ay U U U U U U U U λ_=>Q.nt<|S.sq<|?_
  refine' UW.gF (by kernel_rfl) [0] [0,0,1,7] [some 79,some 80,none,none] [some (79,_),some (80,_),none,none] [2,3] [0] U (by decide) (by decide) (I.held (by decide) U U ?jH (I.kept (by decide) U U ?jI (I.skip (I.skip I.nil)))) ?uC
  case jH=>exact Z.bg 1 aF rfl rfl rfl
  case jI=>(intro _ hK;exact Z.kw 0 hK ay rfl rfl rfl)
  refine CH.aV U U ?_ (.c 0 U .n)
  refine D.st 3 aF U U U U U U U U λ_=>?_
  refine CH.aV U U ?_ (.c 0 U .n)
  refine D.st 2 ay U U U U U U U U λ_=>?_
  refine CH.nil ?_ (.c 0 U .n)
  simp only[app,bV]
  refine UQ.then<|UW.ret<|S.bG (λhd=>ax U (av (k:=3) hd U U fM fO) (av (k:=2) hd U U bH bI))<|?_
  rfl
 |ok q v=>
  rw[hr] at hwo
  refine aA (n:=81) (H0:=H) (M:=[]) Tryz.func43 (by kernel_rfl) U (by rw[Tryz.ntmps43];rfl) .nil<|?_
  refine Q.rg<|S.dd<|D.box U U U λp1=>S.dd<|D.al z72 U U U λp2=>S.dd<|D.al z27 U U U λp3=>Q.nt<|S.sq<|Q.rg<|Q.fa dz U<|Q.lc 2 bC U U U<|Q.bi U U U<|Q.nt<|S.cF U (fE (by omega))<|UW.skip<|UQ.then<|S.sq<|Q.rg<|S.qu (Z.bg 2 aF U U U)<|S.qu (Z.tF (Z.call U U (λH=>hi 91 H)) h1)<|Q.mv U<|Q.on (Z.bg 2 aF U U U)<|Q.on (Z.tF (Z.call U U (λH=>hi 123 H)) h2)<|Q.pk U U<|Q.nt<|S.cF U U<|UW.skip<|UQ.then<|S.sq<|Q.rg<|S.qu (Z.bg 2 aF U U U)<|S.qu (Z.tF (Z.call U U (λH=>hi 34 H)) h3)<|Q.nt<|S.cF U U<|UW.skip<|UQ.then<|S.sq<|Q.rg<|S.qu (Z.bg 2 aF U U U)<|S.qu (Z.tF (Z.call U U (λH=>hi 45 H)) h4)<|Q.mv U<|Q.on (Z.bg 2 aF U U U)<|Q.on (Z.fa bB U)<|Q.on (Z.dQ 2 bC U U U)<|Q.on (Z.call U U (λH=>hdg H))<|Q.on (Z.bi U U U)<|Q.pk U U<|Q.nt<|S.cF U (decide_eq_false (by omega))<|UW.skip<|UQ.then<|Q.rg<|S.qu (Z.bg 2 aF U U U)<|S.qu (Z.call U U (λH=>hwo H))<|Q.mv U<|?_
  refine S.qu (Z.ex U U)<|S.qu (Z.ex U U)<|S.dd<|D.al z72 U U U λWh=>S.dd<|D.al z27 U U U λWH=>S.s<|D.st 1 aF U U U U U U U U λ_=>S.s<|D.l8 0 ay U U U U (by exact aH _) (ak _) U U λ_=>?_
  refine Q.nt<|S.sq<|?_
  refine' UW.gF (by kernel_rfl) [0] [0,0,1,7] [some 79,some 80,none,none] [some (79,_),some (80,_),none,none] [2,3] [0] U (by decide) (by decide) (I.held (by decide) U U ?AU (I.kept (by decide) U U ?AX (I.skip (I.skip I.nil)))) ?Ox
  case AU=>exact Z.bg 1 aF rfl rfl rfl
  case AX=>(intro _ hK;exact Z.kw 0 hK ay rfl rfl (ak _))
  refine CH.aV U U ?_ (.c 0 U .n)
  refine D.st 3 aF U U U U U U U U λ_=>?_
  refine CH.aV U U ?_ (.c 0 U .n)
  refine D.l8 2 ay U U U U (by exact aH _) (ak _) U U λ_=>?_
  refine CH.nil ?_ (.c 0 U .n)
  simp only[app,bV]
  refine UQ.then<|UW.ret<|S.bG (λhd=>ax U (av (k:=3) hd U U fM fO) (av (k:=2) hd U U bH (by rw[ak];exact bI)))<|?_
  rfl
theorem yU(s:ByteArray)(p d:Nat)(e:Int)(he:e≠0)(H:Hp):F Tryz.prog 43 [.agg (tq s p e d)] H (bn H (.dH [.agg (tq s p e d),.agg (aN zeroV)])):=by
 refine aA (n:=81) (H0:=H) (M:=[]) Tryz.func43 (by kernel_rfl) U (by rw[Tryz.ntmps43];rfl) .nil<|?_
 refine Q.rg<|S.dd<|D.box U U U λp1=>S.dd<|D.al z72 U U U λp2=>S.dd<|D.al z27 U U U λp3=>Q.nt<|S.sq<|Q.rg<|Q.fa dz U<|Q.lc 2 bC U U U<|Q.bi U U U<|Q.nt<|S.cT U (jM (by omega))<|Q.rg<|S.qu (Z.bg 2 aF U U U)<|S.qu (Z.bd [] dh U U U U U U)<|S.s<|D.st 1 aF U U U U U U U U λ_=>S.s<|D.st 0 ay U U U U U U U U λ_=>Q.nt<|UW.ret<|UQ.aj<|S.bG (λhd=>ax U (av (k:=1) hd U U fM fO) (av (k:=0) hd U U bH bI))<|?_
 rfl
theorem Ig(s:ByteArray)(p d:Nat)(hs:s.size<=1000000)(hd:32<=d)(h1:bT s p 91=true\/bT s p 123=true)(H:Hp):F Tryz.prog 43 [.agg (dZ s p d)] H (bn H (.dH [.agg (tq s p 12 d),.agg (aN zeroV)])):=by
 have hi:∀c H,F Tryz.prog 62 [.agg (dZ s p d),.v (.int .u8 c)] H (bn H (.v (.bool (bT s p c)))):=λc H=>ji s p d c hs H
 have hf:∀H,F Tryz.prog 44 [.agg (dZ s p d),.v (.int .i64 12)] H (bn H (.agg (tq s p 12 d))):=λH=>jJ s p d 0 12 H
 cases h2:bT s p 91 with
 |true=>
  refine aA (n:=81) (H0:=H) (M:=[]) Tryz.func43 (by kernel_rfl) U (by rw[Tryz.ntmps43];rfl) .nil<|?_
  refine Q.rg<|S.dd<|D.box U U U λp1=>S.dd<|D.al z72 U U U λp2=>S.dd<|D.al z27 U U U λp3=>Q.nt<|S.sq<|Q.rg<|Q.fa dz U<|Q.lc 2 bC U U U<|Q.bi U U U<|Q.nt<|S.cF U (fE (by omega))<|UW.skip<|UQ.then<|S.sq<|Q.rg<|S.qu (Z.bg 2 aF U U U)<|S.qu (Z.tT (Z.call U U (λH=>hi 91 H)) h2)<|Q.mv U<|Q.of<|Q.of<|Q.pk U U<|Q.nt<|S.cT U U<|S.sq<|Q.rg<|Q.fa jm U<|Q.lc 2 bC U U U<|Q.bi U U U<|Q.nt<|S.cT U (decide_eq_true (by omega))<|Q.rg<|S.qu (Z.bg 2 aF U U U)<|S.qu (Z.call U U (λH=>hf H))<|S.qu (Z.bd [] dh U U U U U U)<|S.s<|D.st 1 aF U U U U U U U U λ_=>S.s<|D.st 0 ay U U U U U U U U λ_=>Q.nt<|UW.ret<|UQ.aj<|UQ.aj<|S.bG (λhd=>ax U (av (k:=1) hd U U fM fO) (av (k:=0) hd U U bH bI))<|?_
  rfl
 |false=>
  have h3:bT s p 123=true:=h1.elim (λh=>absurd (h2.symm.trans h) (by decide)) id
  refine aA (n:=81) (H0:=H) (M:=[]) Tryz.func43 (by kernel_rfl) U (by rw[Tryz.ntmps43];rfl) .nil<|?_
  refine Q.rg<|S.dd<|D.box U U U λp1=>S.dd<|D.al z72 U U U λp2=>S.dd<|D.al z27 U U U λp3=>Q.nt<|S.sq<|Q.rg<|Q.fa dz U<|Q.lc 2 bC U U U<|Q.bi U U U<|Q.nt<|S.cF U (fE (by omega))<|UW.skip<|UQ.then<|S.sq<|Q.rg<|S.qu (Z.bg 2 aF U U U)<|S.qu (Z.tF (Z.call U U (λH=>hi 91 H)) h2)<|Q.mv U<|Q.on (Z.bg 2 aF U U U)<|Q.on (Z.tT (Z.call U U (λH=>hi 123 H)) h3)<|Q.pk U U<|Q.nt<|S.cT U U<|S.sq<|Q.rg<|Q.fa jm U<|Q.lc 2 bC U U U<|Q.bi U U U<|Q.nt<|S.cT U (decide_eq_true (by omega))<|Q.rg<|S.qu (Z.bg 2 aF U U U)<|S.qu (Z.call U U (λH=>hf H))<|S.qu (Z.bd [] dh U U U U U U)<|S.s<|D.st 1 aF U U U U U U U U λ_=>S.s<|D.st 0 ay U U U U U U U U λ_=>Q.nt<|UW.ret<|UQ.aj<|UQ.aj<|S.bG (λhd=>ax U (av (k:=1) hd U U fM fO) (av (k:=0) hd U U bH bI))<|?_
  rfl
end Go.Proofs.YtbooeongacgnbaaGreatDoor
end
