/- A part of the proof. -/
import Derived.Test.YtonpfomjoiaacaaGreatDoorMz33
import Derived.Test.YtonpfomjoiaacaaGreatDoorMz49
set_option maxRecDepth 100000
set_option maxHeartbeats 4000000
set_option linter.unusedSectionVars false
set_option linter.unusedVariables false
set_option linter.unusedSimpArgs false
section
namespace Go.fT
open Go Go.RowKit
section
variable [Rd]
section
variable {P:Program} {n:Nat} {ol:List Oper} {Q:qH->Sl->Hp->Prop} {H0:Hp} {B k1:List Nat} {pre:List (Option (Nat×AV))} {l:List (Nat×AV)} {I keep:List (Nat×Ob)} {dm t e:Nat}
def pQ(P:Program)(ol:List Oper)(B:List Nat)(pre:List (Option (Nat×AV)))(l:List (Nat×AV))(dm t:Nat):List (Nat×ByteArray×AV)->Prop
 |[]=>True
 |(i,s,u)::r=>(∃x y z ty ps af,ol[i]? =some ⟨none,.insert t x y z,ty,ps,af,none⟩/\∀id,aT (mP B (dstsOf ol) pre [(dm,.mpr id)] l i) x=some (.mpr id)/\aT (mP B (dstsOf ol) pre [(dm,.mpr id)] l i) y=some (.v (.string s))/\aT (mP B (dstsOf ol) pre [(dm,.mpr id)] l i) z=some u)/\pQ P ol B pre l dm t r
theorem pQ.get:∀{ins:List (Nat×ByteArray×AV)},pQ P ol B pre l dm t ins->∀{i s u},(i,s,u)∈ins->∃x y z ty ps af,ol[i]? =some ⟨none,.insert t x y z,ty,ps,af,none⟩/\∀id,aT (mP B (dstsOf ol) pre [(dm,.mpr id)] l i) x=some (.mpr id)/\aT (mP B (dstsOf ol) pre [(dm,.mpr id)] l i) y=some (.v (.string s))/\aT (mP B (dstsOf ol) pre [(dm,.mpr id)] l i) z=some u
 |[],_,_,_,_,h=>by cases h
 |_::_,h,i,s,u,hm=>by
  rcases List.mem_cons.1 hm with e|hm
  ·cases e;exact h.1
  ·exact h.2.get hm
theorem pQ.cons{i:Nat}{s:ByteArray}{u:AV}{r:List (Nat×ByteArray×AV)}{x y z:Operand}{ty:TypeId}{ps:String}{af:Array Edge}(ho:ol[i]? =some ⟨none,.insert t x y z,ty,ps,af,none⟩)(h:pQ P ol B pre l dm t r)(h1:∀id,aT (mP B (dstsOf ol) pre [(dm,.mpr id)] l i) x=some (.mpr id):=by intro _;rfl)(h2:∀id,aT (mP B (dstsOf ol) pre [(dm,.mpr id)] l i) y=some (.v (.string s)):=by intro _;rfl)(h3:∀id,aT (mP B (dstsOf ol) pre [(dm,.mpr id)] l i) z=some u:=by intro _;rfl):
 pQ P ol B pre l dm t ((i,s,u)::r):=⟨⟨x,y,z,ty,ps,af,ho,λid=>⟨h1 id,h2 id,h3 id⟩⟩,h⟩
theorem Has.up{p:Nat×Ob}:∀{keep I:List (Nat×Ob)},Has keep I->Has keep (p::I)
 |_,_,.n=> .n
 |_,_,.c k h t=> .c (k+1) (by simpa using h) t.up
theorem Has.pick(I:List (Nat×Ob)):∀kp,Has (pick I kp) I
 |[]=> .n
 |k::ks=>by
  unfold fT.pick
  split
  ·exact .c k (by assumption) (Has.pick I ks)
  ·exact Has.pick I ks
theorem FQ{s:ByteArray}:∀{es:List (ByteArray×AV)},s∉es.map (·.1)->kU es s=none
 |[],_=>rfl
 |p::r,h=>by
  rw[List.map_cons,List.mem_cons,not_or] at h
  unfold kU
  rw[if_neg (λe=>h.1 (by first|exact e|exact e.symm))]
  exact FQ h.2
def Vf(B:List Nat):List Nat->Bool
 |[]=>true
 |a::r=>(r.all λb=>(B.getD b 0).testBit a)&&Vf B r
theorem UW.drawm{Nk:Nat}{x':TypeId}{ps':String}{af':Array Edge}(hm:P.follows .mixedOrders=true)(kp:List Nat)(B:List Nat)(ds:List (Option Nat))(pre:List (Option (Nat×AV)))(m dm:Nat)(ins:List (Nat×ByteArray×AV))(js tail:List Nat)(hjs:ins.map (·.1)=js)(hpre:(pre.map λo=>o.map (·.1))=ds)(he:lC B ol 0=true)
 (hch:yP B ds (m::(js++tail)) [] (dstsOf ol)=true) (hw:((js++tail).all λi=>(B.getD i 0).testBit m)=true) (hw2:(tail.all λi=>js.all λj=>(B.getD i 0).testBit j)=true) (ho:Vf B tail=true) (ht:Ce P t=some e) (hmk:ol[m]? =some ⟨some dm,.makeMap t none,x',ps',af',none⟩) (hdm:dm<n) (hnd:(ins.map (·.2.1)).Nodup)
 (hq:M P n ol H0 I B [] pre l (fT.pick I kp) pre 0) (hi:pQ P ol B pre l dm t ins) (hk:∀id es,es.Perm (ins.map (·.2))->CH P n ol Q H0 B pre l (fT.pick I kp) tail [(dm,.mpr id)] ((id,.mp es)::I)):UW P n Q H0 (.region Nk ol.toArray true) l I:=by
 subst hpre hjs
 have hC:=iO.ofN hch
 refine UW.Zt (R:=λrem cr ob=>(rem=m::(ins.map (·.1)++tail)/\cr=[]/\ob=I)\/(∃(id:Nat) (es:List (ByteArray×AV)) (rest:List (Nat×ByteArray×AV)),rest≠[]/\rem.Perm (rest.map (·.1)++tail)/\cr=[(dm,.mpr id)]/\ob=(id,.mp es)::I/\(es++rest.map (·.2)).Perm (ins.map (·.2))/\∀p∈rest,p∈ins)\/
  ∃tl,rem.Perm tl/\Vf B tl=true/\CH P n ol Q H0 B pre l (fT.pick I kp) tl cr ob) hm B pre (m::(ins.map (·.1)++tail)) [] he hC ⟨?_,?_,?_⟩ hq (.inl ⟨rfl,rfl,rfl⟩)
 ·rintro rem cr ob (⟨_,_,rfl⟩|⟨id,es,rest,_,_,_,rfl,_⟩|⟨tl,_,_,h⟩)
  ·exact Has.pick _ _
  ·exact(Has.pick _ _).up
  ·exact h.has
 ·rintro cr ob (⟨h,_⟩|⟨id,es,rest,h0,h1,_⟩|⟨tl,h1,_,h⟩)
  ·cases h
  ·have:=h1.length_eq
   cases rest with
   |nil=>exact absurd U h0
   |cons a r=>simp at this
  ·rw[h1.symm.eq_nil] at h
   exact h.2
 ·-- what is left behind an insert
  have after:∀(id:Nat) (es:List (ByteArray×AV)) (rest:List (Nat×ByteArray×AV)) (rem:List Nat),rem.Perm (rest.map (·.1)++tail)->(es++rest.map (·.2)).Perm (ins.map (·.2))->(∀p∈rest,p∈ins)->(rem=m::(ins.map (·.1)++tail)/\[(dm,AV.mpr id)]=[]/\(id,Ob.mp es)::I=I)\/
   (∃(id':Nat) (es':List (ByteArray×AV)) (rest:List (Nat×ByteArray×AV)),rest≠[]/\rem.Perm (rest.map (·.1)++tail)/\[(dm,AV.mpr id)]=[(dm,AV.mpr id')]/\(id,Ob.mp es)::I=(id',Ob.mp es')::I/\(es'++rest.map (·.2)).Perm (ins.map (·.2))/\∀p∈rest,p∈ins)\/
   ∃tl,rem.Perm tl/\Vf B tl=true/\CH P n ol Q H0 B pre l (fT.pick I kp) tl [(dm,.mpr id)] ((id,.mp es)::I):=by
   intro id es rest rem h1 h2 h3
   cases rest with
   |nil=>exact .inr (.inr ⟨tail,by simpa using h1,ho,hk id es (by simpa using h2)⟩)
   |cons p r=>exact .inr (.inl ⟨id,es,p::r,by simp,h1,rfl,rfl,h2,h3⟩)
  rintro rem cr ob i (⟨rfl,rfl,rfl⟩|⟨id,es,rest,h0,h1,rfl,rfl,h2,h3⟩|⟨tl,h1,h2,h3⟩) hir hno
  ·rcases List.mem_cons.1 hir with rfl|hir
   ·refine⟨_,hmk,λd hd=>(by cases hd;exact hdm),D.mkm λid=>?_⟩
    rw[List.erase_cons_head]
    exact after id [] ins _ (.refl _) (.refl _) λp hp=>hp
   ·have:=List.all_eq_true.1 hw i hir
    rw[hno m (List.mem_cons_self ..)] at this
    cases this
  ·rcases List.mem_append.1 (h1.mem_iff.1 hir) with hm'|hm'
   ·obtain⟨p,hp,rfl⟩:=List.mem_map.1 hm'
    obtain⟨i,s,u⟩:=p
    obtain⟨a,b,rfl⟩:=List.append_of_mem hp
    obtain⟨x,y,z,ty,ps,af,ho',hv⟩:=hi.get (h3 _ hp)
    obtain⟨v1,v2,v3⟩:=hv id
    have hkeys:((es++(a++(i,s,u)::b).map (·.2)).map (·.1)).Nodup:=by
     refine(h2.map (·.1)).nodup_iff.2 ?_
     rw[List.map_map];exact hnd
    have hs:kU es s=none:=FQ λhm=>by
     rw[List.map_append,List.nodup_append] at hkeys
     exact hkeys.2.2 s hm s (by simp) U
    refine⟨_,ho',λd hd=>(by cases hd),D.ins 0 ht v1 U v2 v3 hs U λ_=>after id (es++[(s,u)]) (a++b) _ ?_ ?_ λp hp=>h3 p ?_⟩
    ·have hpm:((a++(i,s,u)::b).map (·.1)++tail).Perm (i::((a++b).map (·.1)++tail)):=by
      rw[List.map_append,List.map_cons,List.map_append,List.append_assoc,List.append_assoc];exact List.perm_middle
     have:=(h1.trans hpm).erase i
     rwa [List.erase_cons_head] at this
    ·refine List.Perm.trans ?_ h2
     rw[List.append_assoc]
     refine List.Perm.append_left _ ?_
     rw[List.map_append,List.map_append,List.map_cons,List.singleton_append]
     exact List.perm_middle.symm
    ·rcases List.mem_append.1 hp with h|h
     ·exact List.mem_append_left _ h
     ·exact List.mem_append_right _ (List.mem_cons_of_mem _ h)
   ·exfalso
    cases rest with
    |nil=>exact h0 U
    |cons p r=>
     have e1:=List.all_eq_true.1 (List.all_eq_true.1 hw2 i hm') p.1 (List.mem_map.2 ⟨p,h3 p (List.mem_cons_self ..),rfl⟩)
     rw[hno p.1 (h1.mem_iff.2 (by simp))] at e1
     cases e1
  ·cases tl with
   |nil=>exact absurd (h1.mem_iff.1 hir) List.not_mem_nil
   |cons c r=>
    unfold Vf at h2
    simp only[Bool.and_eq_true,List.all_eq_true] at h2
    have hci:i=c:=by
     rcases List.mem_cons.1 (h1.mem_iff.1 hir) with h|h
     ·exact h
     ·have:=h2.1 i h
      rw[hno c (h1.mem_iff.2 (List.mem_cons_self ..))] at this
      cases this
    subst hci
    obtain⟨_,o,g1,g2,g3⟩:=h3
    refine⟨o,g1,g2,λhd=>(g3 hd).mono ?_⟩
    rintro u H' ⟨aL,e1,e2,e3⟩
    refine⟨aL,e1,e2,.inr (.inr ⟨r,?_,h2.2,e3⟩)⟩
    have:=h1.erase i
    rwa [List.erase_cons_head] at this
end
end
end Go.fT
end
section
namespace Go.Proofs.YtonpfomjoiaacaaGreatDoor
open Go Go.fT Go.RowKit
def pick(L:List (ByteArray×V))(seen:List Nat):List (ByteArray×V):=seen.filterMap λi=>L[i]?
theorem Sr{L:List (ByteArray×V)}{seen:List Nat}{i:Nat}{p:ByteArray×V}(h:L[i]? =some p):dL (pick L (seen++[i]))=bH (dL (pick L seen)) p.1 p.2:=by
 have:pick L (seen++[i])=pick L seen++[p]:=by unfold pick;rw[List.filterMap_append];simp[h]
 rw[this,kK]
theorem M0{L:List (ByteArray×V)}{seen:List Nat}{p:ByteArray×V}(h:p∈pick L seen):p∈L:=by
 obtain⟨i,_,h⟩:=List.mem_filterMap.1 h;exact List.mem_of_getElem? h
theorem Su{L:List (ByteArray×V)}{seen:List Nat}(hL:(L.map (·.1)).Nodup)(hs:seen.Nodup)(ha:∀i,i<L.length->i∈seen):dL (pick L seen)=dL L:=by
 refine Fe ?_ hL λp=>⟨M0,λh=>?_⟩
 ·have:(pick L seen).map (·.1)=seen.filterMap λi=>(L.map (·.1))[i]? :=by
   unfold pick;rw[List.map_filterMap];congr 1;funext i;rw[List.getElem?_map]
  rw[this]
  refine List.pairwise_filterMap.2 (hs.imp ?_)
  intro a b hne x hx y hy e
  subst e
  obtain⟨h1,e1⟩:=List.getElem?_eq_some_iff.1 hx
  obtain⟨h2,e2⟩:=List.getElem?_eq_some_iff.1 hy
  exact hne ((List.getElem_inj hL).1 (e1.trans e2.symm))
 ·obtain⟨i,hi,rfl⟩:=List.getElem_of_mem h
  exact List.mem_filterMap.2 ⟨i,ha i hi,List.getElem?_eq_getElem hi⟩
theorem M3{n:Nat}{seen:List Nat}(hs:seen.Nodup)(h:∀i∈seen,i<n):seen.length<=n:=by
 have h1:(seen.map λ_=>1).sum<=((List.range n).map λ_=>1).sum:=Kc (λ_=>1) seen (List.range n) hs (λx hx=>List.mem_range.2 (h x hx))
 rw[List.map_const',List.map_const',List.sum_replicate_nat,List.sum_replicate_nat,List.length_range] at h1
 omega
theorem Hu{n i:Nat}{seen:List Nat}(hj:seen.Nodup/\∀i∈seen,i<n)(hi:i∉seen)(h:i<n):(seen++[i]).Nodup/\∀j∈seen++[i],j<n:=by
 refine⟨List.nodup_append.2 ⟨hj.1,by simp,λa ha b hb e=>?_⟩,λj hj'=>?_⟩
 ·rw[List.mem_singleton] at hb
  exact hi (by rw[<-hb,<-e];exact ha)
 ·rcases List.mem_append.1 hj' with h'|h'
  ·exact hj.2 j h'
  ·rw[List.mem_singleton] at h';omega
theorem YZ{e:EV}(hs:Sm e){L:List (ByteArray×V)}(hL:L.Perm (bT e)){seen:List Nat}(h:seen.length<=9):Fits (dL (pick L seen)):=by
 obtain⟨h1,h2,h3⟩:=hs.pairs
 have he:=zK (pick L seen) (λp hp=>(h1 p (hL.mem_iff.1 (M0 hp))).2.2)
 exact he.fits (by have:(pick L seen).length<=seen.length:=List.length_filterMap_le ..;omega)
def pW(l:List (ByteArray×V)):List (ByteArray×AV):=l.map λp=>(p.1,.agg (aD p.2))
theorem Y0{l:List (ByteArray×V)}{i:Nat}{s:ByteArray}{u:AV}(h:(pW l)[i]? =some (s,u)):∃v,l[i]? =some (s,v)/\u=.agg (aD v):=by
 unfold pW at h
 rw[List.getElem?_map] at h
 cases hl:l[i]? with
 |none=>rw[hl] at h;cases h
 |some p=>rw[hl] at h;cases h;exact⟨p.2,rfl,rfl⟩
theorem Hw:∀{es:List (ByteArray×AV)} {l:List (ByteArray×V)},es.Perm (pW l)->∃l',l'.Perm l/\es=pW l'
 |[],l,h=>by
  cases l with
  |nil=>exact⟨[],.refl _,rfl⟩
  |cons p r=>exact absurd h.length_eq (by unfold pW;simp)
 |b::r,l,h=>by
  obtain⟨p,hp,e⟩:=List.mem_map.1 (h.mem_iff.1 (List.mem_cons_self ..))
  obtain⟨x,y,rfl⟩:=List.append_of_mem hp
  have h2:(pW (x++p::y)).Perm (b::pW (x++y)):=by
   unfold pW
   rw[List.map_append,List.map_cons,List.map_append,e]
   exact List.perm_middle
  obtain⟨l',h3,h4⟩:=Hw (h.trans h2).cons_inv
  exact⟨p::l',(h3.cons p).trans List.perm_middle.symm,by rw[h4,<-e];rfl⟩
theorem mp84:Ce Tryz.prog 84=some 26:=by kernel_rfl
theorem wH(e:EV)(hs:Sm e)(H:Hp)(hG:gU H):au Tryz.prog 24 [.agg (mZ e)] H (bz H (.agg (aD (dx e)))):=by
 have hpa:∀H,au Tryz.prog 74 [strs e.dH] H (bz H (.agg (aD (eX e.dH)))):=λH=>FP _ (by have:=hs.dH.1;omega) H
 have hpp:∀H,au Tryz.prog 74 [strs e.prev] H (bz H (.agg (aD (eX e.prev)))):=λH=>FP _ (by have:=hs.prev.1;omega) H
 have hsd:∀L:List (ByteArray×V),L.Perm (bT e)->∀seen:List Nat,seen.Nodup->(∀i,i<(pW L).length->i∈seen)->∀H,gU H->au Tryz.prog 78 [.agg (aD (dL (pick L seen)))] H (bz H (.agg (aD (dx e)))):=λL hL seen h1 h2 H h=>by
  have hn:(L.map (·.1)).Nodup:=(hL.map _).nodup_iff.2 (nV e)
  rw[Su hn h1 (λi hi=>h2 i (by unfold pW;rwa [List.length_map])),Fe hn (nV e) λp=>hL.mem_iff]
  exact Mk _ hs.rd.fits hs.rd.Gb H h
 have hw:∀L:List (ByteArray×V),L.Perm (bT e)->∀(seen:List Nat) (i:Nat) (s:ByteArray) (y:V),seen.Nodup/\(∀i∈seen,i<(pW L).length)->L[i]? =some (s,y)->∀H,au Tryz.prog 77 [.agg (aD (dL (pick L seen))),.v (.string s),.agg (aD y)] H (bz H (.agg (aD (dL (pick L (seen++[i])))))):=by
  intro L hL seen i s y hj hp H
  have hl:=M3 hj.1 hj.2
  have hl9:=hs.pairs.2.1
  have hll:=hL.length_eq
  unfold pW at hl
  rw[List.length_map] at hl
  rw[Sr hp]
  exact vX _ (YZ hs hL (by omega)) s y (hs.pairs.1 (s,y) (hL.mem_iff.1 (List.mem_of_getElem? hp))).2.2.1 H
 have hS1:e.is=false->∀es:List (ByteArray×AV),es.Perm [(gK,.agg (aD (eX e.dH))),(aQ,.agg (aD e.body)),(eu,.agg (aD (mU e.depth))),(iR,.agg (aD (mU e.time))),(gV,.agg (aD (eX e.prev))),(gY,.agg (aD (cK e.room))),(bZ,.agg (aD (cK e.sender))),(dK,.agg (aD (cK e.ty)))]->es.Perm (pW (bT e)):=λhi es h=>by
  unfold pW bT;rw[hi];exact h
 have hS2:e.is=true->∀es:List (ByteArray×AV),es.Perm [(gK,.agg (aD (eX e.dH))),(aQ,.agg (aD e.body)),(eu,.agg (aD (mU e.depth))),(iR,.agg (aD (mU e.time))),(gV,.agg (aD (eX e.prev))),(gY,.agg (aD (cK e.room))),(bZ,.agg (aD (cK e.sender))),(dK,.agg (aD (cK e.ty)))]->(es++[(dX,AV.agg (aD (cK e.key)))]).Perm (pW (bT e)):=λhi es h=>by
  unfold pW bT;rw[hi];exact h.append_right _
 have hno:∀es:List (ByteArray×AV),es.Perm [(gK,.agg (aD (eX e.dH))),(aQ,.agg (aD e.body)),(eu,.agg (aD (mU e.depth))),(iR,.agg (aD (mU e.time))),(gV,.agg (aD (eX e.prev))),(gY,.agg (aD (cK e.room))),(bZ,.agg (aD (cK e.sender))),(dK,.agg (aD (cK e.ty)))]->kU es dX=none:=λes h=>FQ λhm=>by
  have:=(h.map (·.1)).mem_iff.1 hm
  exact absurd (lJ.2 (show dX∈[gK,aQ,eu,iR,gV,gY,bZ,dK] from this)) (by rw[show hasB [gK,aQ,eu,iR,gV,gY,bZ,dK] dX=false by kernel_rfl];decide)
 generalize bT e=L0 at*
 generalize dx e=mv at*
 obtain⟨eid,ty,key,is,sender,room,prev,dH,depth,time,body⟩:=e
 clear hs
 simp only at hpa hpp hS1 hS2 hno
 obtain⟨b0,b1,b2,b3,b4⟩:=body
 obtain⟨m0,m1,m2,m3,m4⟩:=mv
 refine aF (n:=52) (H0:=H) (I:=[]) Tryz.func24 (by kernel_rfl) U (by rw[Tryz.ntmps24];rfl) .nil ?_
 refine S.sq (S.rg ?_)
 refine S.dd (D.box U U U (λp1=>?_))
 refine S.dd (D.al z26 U U U (λp2=>?_))
 refine US.nil (UQ.then (S.sq ?_))
 refine' UW.drawm (by kernel_rfl) [0,1] [0,0,2,6,15,0,32,97,0,256,782,1807,0,4096,14094,30479,0,65536,227086,489231,0,1048576,3634958,7829263,0,16777216,58160910,125269775,0,268435456,930576142,2004317967,4294967295,8589934591] [none,some 8,some 9,some 10,none,some 11,some 12,none,some 13,some 14,some 15,none,some 16,some 17,some 18,none,some 19,some 20,some 21,none,some 22,some 23,some 24,none,some 25,some 26,some 27,none,some 28,some 29,some 30,none,none,none] [none,some (8,_),some (9,_),some (10,_),none,some (11,_),some (12,_),none,some (13,_),some (14,_),some (15,_),none,some (16,_),some (17,_),some (18,_),none,some (19,_),some (20,_),some (21,_),none,some (22,_),some (23,_),some (24,_),none,some (25,_),some (26,_),some (27,_),none,some (28,_),some (29,_),some (30,_),none,none,none] 0 7 [(4,_,_),(7,_,_),(11,_,_),(15,_,_),(19,_,_),(23,_,_),(27,_,_),(31,_,_)] [4,7,11,15,19,23,27,31] [32,33] U U (by decide) (by decide) (by decide) (by decide) (by decide) mp84 U (by decide) ?q0x0_d (M.skip (M.free (by decide) U U ?yc (M.kept (by decide) U U ?yf (M.free (by decide) U U ?FR (M.skip (M.free (by decide) U U ?FT (M.kept (by decide) U U ?FU (M.skip (M.free (by decide) U U ?FV (M.kept (by decide) U U ?FW (M.free (by decide) U U ?Kn (M.skip (M.free (by decide) U U ?Ko (M.kept (by decide) U U ?Kq (M.free (by decide) U U ?Kr (M.skip (M.free (by decide) U U ?Kt (M.kept (by decide) U U ?Ku (M.free (by decide) U U ?Kv (M.skip (M.free (by decide) U U ?Kw (M.kept (by decide) U U ?Ky (M.free (by decide) U U ?Kz (M.skip (M.free (by decide) U U ?KA (M.kept (by decide) U U ?Y1 (M.free (by decide) U U ?Y2 (M.skip (M.free (by decide) U U ?Y3 (M.kept (by decide) U U ?Y4 (M.free (by decide) U U ?Y5 (M.skip (M.skip (M.skip M.nil)))))))))))))))))))))))))))))))))) ?q0x0_i ?Oo
 case yc=>(intro _;exact Z.fa vG rfl)
 case yf=>(intro _ hK;exact Z.kc 1 hK dD rfl rfl rfl)
 case FR=>(intro _;exact Z.call rfl rfl (λH=>hpa H))
 case FT=>(intro _;exact Z.fa tY rfl)
 case FU=>(intro _ hK;exact Z.ka 1 hK av rfl rfl rfl)
 case FV=>(intro _;exact Z.fa FD rfl)
 case FW=>(intro _ hK;exact Z.kc 1 hK qF rfl rfl rfl)
 case Kn=>(intro _;exact Z.call rfl rfl (λ_=>MZ _ _))
 case Ko=>(intro _;exact Z.fa FE rfl)
 case Kq=>(intro _ hK;exact Z.kc 1 hK qF rfl rfl rfl)
 case Kr=>(intro _;exact Z.call rfl rfl (λ_=>MZ _ _))
 case Kt=>(intro _;exact Z.fa vF rfl)
 case Ku=>(intro _ hK;exact Z.kc 1 hK dD rfl rfl rfl)
 case Kv=>(intro _;exact Z.call rfl rfl (λH=>hpp H))
 case Kw=>(intro _;exact Z.fa FC rfl)
 case Ky=>(intro _ hK;exact Z.kc 1 hK ed rfl rfl rfl)
 case Kz=>(intro _;exact Z.call rfl rfl (λ_=>o5 _ _))
 case KA=>(intro _;exact Z.fa FB rfl)
 case Y1=>(intro _ hK;exact Z.kc 1 hK ed rfl rfl rfl)
 case Y2=>(intro _;exact Z.call rfl rfl (λ_=>o5 _ _))
 case Y3=>(intro _;exact Z.fa Fz rfl)
 case Y4=>(intro _ hK;exact Z.kc 1 hK ed rfl rfl rfl)
 case Y5=>(intro _;exact Z.call rfl rfl (λ_=>o5 _ _))
 case q0x0_i=>exact pQ.cons rfl<|pQ.cons rfl<|pQ.cons rfl<|pQ.cons rfl<|pQ.cons rfl<|pQ.cons rfl<|pQ.cons rfl<|pQ.cons rfl<|trivial
 case q0x0_d=>(simp only[List.map];decide)
 intro p7 es7 hes7
 refine CH.cons U U (by decide) ?_ (.c 1 U (.c 2 U .n))
 refine D.qu (Z.mv U) ?_
 refine CH.cons U U (by decide) ?_ (.c 1 U (.c 2 U .n))
 refine D.qu (Z.as U) ?_
 refine CH.nil ?_ (.c 1 U (.c 2 U .n))
 simp only[app,bV]
 refine UQ.then ?_
 refine S.Vz (λes:List (ByteArray×AV)=>[(3,.mpr p7),(2,.ptr p2 0)]) (λes=>[(p7,.mp es),(p2,.box 26 (aD zeroV))]) (λes=>es.Perm (pW L0)) ?_ (λes hes=>?_)
 refine S.sq (S.rg ?_)
 refine S.qu (Z.fa kW U) ?_
 refine S.qu (Z.di 2 oo U U U) ?_
 refine US.nil (UQ.then ?_)
 refine S.cB U (λQ3=>?_) (λQ3=>?_)
 refine S.rg ?_
 refine S.qu (Z.mv U) ?_
 refine S.qu (Z.fa wZ U) ?_
 refine S.qu (Z.di 2 ed U U U) ?_
 refine S.qu (Z.call U U (λ_=>o5 _ _)) ?_
 refine S.s (D.mup 0 mp84 U U U U (hno _ (by assumption)) U (λ_=>?_))
 refine US.nil ?_
 refine S.qQ _ ⟨rfl,rfl,trivial⟩ (by repeat (first|exact List.Sublist.refl _|exact List.nil_sublist _|refine .cons_cons _ ?_|refine .cons _ ?_)) (hS2 Q3 _ (by assumption))
 refine UW.skip ?_
 refine S.qQ _ ⟨rfl,rfl,trivial⟩ (by repeat (first|exact List.Sublist.refl _|exact List.nil_sublist _|refine .cons_cons _ ?_|refine .cons _ ?_)) (hS1 Q3 _ (by assumption))
 (obtain⟨L,hL,rfl⟩:=Hw hes;refine S.sq ?_)
 refine S.rg ?_
 refine S.qu (Z.bd [0] iE U U U U U U) ?_
 refine S.dd (D.al z26 U U U (λp4=>?_))
 refine S.s (D.st 0 av U U U U U U U U (λ_=>?_))
 refine US.nil (UQ.then (S.sq (S.sq (S.rg ?_))))
 refine S.qu (Z.mv U) ?_
 refine S.dd (D.rgm 1 mp84 U U (λp40=>?_))
 refine US.nil (UQ.then (UW.block ?_))
 refine S.loop (λ_:List Nat=>[(40,.ptr p40 0),(4,.ptr p4 0),(2,.ptr p2 0)]) (λseen=>[(p40,.yE p7 (pW L).length seen),(p4,.box 26 (aD (dL (pick L seen)))),(p7,.mp (pW L)),(p2,.box 26 (aD zeroV))]) (λseen=>seen.Nodup/\∀i∈seen,i<(pW L).length) (λseen=>(pW L).length-seen.length) [] ⟨List.nodup_nil,λi h=>by cases h⟩ ⟨rfl,rfl,rfl,trivial⟩ (by repeat (first|exact List.Sublist.refl _|exact List.nil_sublist _|refine .cons_cons _ ?_|refine .cons _ ?_)) ?_
 rintro seen hj
 have hsd':=hsd L hL seen hj.1
 have hw':=hw L hL seen
 generalize dL (pick L seen)=v at*
 obtain⟨v0,v1,v2,v3,v4⟩:=v
 focus
  refine S.sq (S.rg ?_)
  refine S.dd (D.nxm 0 2 U U U U (λh41=>?_) (λih41 sh41 uh41 ZN ZO=>?_))
  refine S.qu (Z.ex U U) ?_
  refine US.nil (UQ.then (S.sq ?_))
  refine S.cF U U ?_
  refine UW.exit (UQ.pass (UQ.pass (UQ.here (UQ.then (S.sq (S.rg ?_))))))
  refine S.qu (Z.dA 1 av U U U) ?_
  refine S.qu (Z.fe U U (λ_ hS=>hsd' (by assumption) _ (hG.mono hS))) ?_
  refine S.s (D.st 3 av U U U U U U U U (λ_=>?_))
  refine US.nil (UQ.then (UW.ret ?_))
  refine S.bK (λhd=>aU (k:=3) hd U U U fV fZ) ?_
  rfl
  refine S.qu (Z.ex U U) ?_
  refine US.nil (UQ.then (S.sq ?_))
  refine S.cT U U ?_
  refine UW.skip (UQ.then (UW.block (S.sq (S.rg ?_))))
  refine S.qu (Z.ent 0 2 U U U U (by assumption)) ?_
  obtain⟨y,hy,rfl⟩:=Y0 (by assumption)
  refine S.qu (Z.ex U U) ?_
  refine S.qu (Z.ex U U) ?_
  refine S.dd (D.al z26 U U U (λp6=>?_))
  refine S.qu (Z.as U) ?_
  refine S.s (D.uq 0 av U U U U (by exact aA _) (Y _) U U (λ_=>?_))
  refine US.nil (UQ.then (S.rg ?_))
  refine S.qu (Z.dA 2 av U U U) ?_
  refine S.qu (Z.mv U) ?_
  refine S.qu (Z.dA 0 av U U (Y _)) ?_
  refine S.qu (Z.call U U (λH=>hw' _ _ _ hj (by assumption) H)) ?_
  refine S.s (D.uq 2 av U U U U (by exact aA _) (Y _) U U (λ_=>?_))
  refine US.nil (UQ.aB ?_)
  refine S.back (seen++[_]) ⟨rfl,rfl,rfl,trivial⟩ (by repeat (first|exact List.Sublist.refl _|exact List.nil_sublist _|refine .cons_cons _ ?_|refine .cons _ ?_)) ?_ ?_
  rotate_left
  rotate_left
 ·exact Hu hj ZN (List.getElem?_eq_some_iff.1 ZO).1
 ·have h9:=Hu hj ZN (List.getElem?_eq_some_iff.1 ZO).1
  have:=M3 h9.1 h9.2
  rw[List.length_append] at this⊢
  show _-(_+1)<_
  have:seen.length+1<=(pW L).length:=this
  omega
theorem FX(l:List ByteArray)(hl:l.length<=1000000)(H:Hp):au Tryz.prog 43 [strs l] H (bz H (strs l)):=by
 refine(Dm l (by omega) H).post ?_
 rintro u H1 ⟨news,hd,rfl,i,rfl,rfl⟩
 refine⟨strs l,H,ku hd,?_,rfl,rfl⟩
 have:=Dp hd (k:=0) U
 exact this
theorem BU(e:EV)(hs:Sm e)(H:Hp)(hG:gU H):au Tryz.prog 12 [.agg (mZ e)] H (bz H (.agg (mZ {e with id:=zW (dx e)}))):=by
 have hm:∀H,gU H->au Tryz.prog 24 [.agg (mZ e)] H (bz H (.agg (aD (dx e)))):=λH h=>wH e hs H h
 have hi:∀H,gU H->au Tryz.prog 42 [.agg (aD (dx e))] H (bz H (.v (.string (zW (dx e))))):=λH h=>Qs _ hs.make.fits hs.make.prR H h
 have hp1:∀H,au Tryz.prog 43 [strs e.prev] H (bz H (strs e.prev)):=λH=>FX _ (by have:=hs.prev.1;omega) H
 have hp2:∀H,au Tryz.prog 43 [strs e.dH] H (bz H (strs e.dH)):=λH=>FX _ (by have:=hs.dH.1;omega) H
 have hcp:∀H,au Tryz.prog 44 [.agg (aD e.body)] H (bz H (.agg (aD e.body))):=λH=>iW (jV _ hs.fits H)
 generalize zW (dx e)=i at*
 generalize dx e=m at*
 obtain⟨eid,ty,key,is,sender,room,prev,dH,depth,time,body⟩:=e
 clear hs
 simp only at hp1 hp2 hcp
 obtain⟨m0,m1,m2,m3,m4⟩:=m
 obtain⟨b0,b1,b2,b3,b4⟩:=body
 refine aF (n:=20) (H0:=H) (I:=[]) Tryz.func12 (by kernel_rfl) U (by rw[Tryz.ntmps12];rfl) .nil ?_
 refine S.sq (S.rg ?_)
 refine S.dd (D.box U U U (λp1=>?_))
 refine S.dd (D.al z28 U U U (λp2=>?_))
 refine US.nil (UQ.then (S.sq (S.rg ?_)))
 refine S.qu (Z.dA 1 gy U U U) ?_
 refine S.qu (Z.fe U U (λ_ hS=>hm _ (hG.mono hS))) ?_
 refine S.qu (Z.fe U U (λ_ hS=>hi _ (hG.mono hS))) ?_
 refine S.qu (Z.fa wY U) ?_
 refine S.s (D.st 1 ed U U U U U U U U (λ_=>?_))
 refine US.nil (UQ.then (S.sq ?_))
 refine' UW.bG (by kernel_rfl) [0,1,3,0,8,31,0,64,255,223,1023,2047,4095,8191,16383] [some 7,some 8,some 9,some 10,some 11,some 12,some 13,some 14,some 15,some 16,none,none,none,none,none] [some (7,_),some (8,_),some (9,_),some (10,_),some (11,_),some (12,_),some (13,_),some (14,_),some (15,_),some (16,_),none,none,none,none,none] [10,11,12,13,14] [1,4,7] U (by decide) (by decide) (M.free (by decide) U U ?Es (M.held (by decide) U U ?yc (M.free (by decide) U U ?yf (M.free (by decide) U U ?FR (M.held (by decide) U U ?PE (M.free (by decide) U U ?FT (M.free (by decide) U U ?FU (M.held (by decide) U U ?PG (M.free (by decide) U U ?FV (M.free (by decide) U U ?FW (M.skip (M.skip (M.skip (M.skip (M.skip M.nil))))))))))))))) ?Oo
 case Es=>(intro _;exact Z.fa vF rfl)
 case yc=>exact Z.di 1 dD rfl rfl rfl
 case yf=>(intro _;exact Z.call rfl rfl (λH=>hp1 H))
 case FR=>(intro _;exact Z.fa vG rfl)
 case PE=>exact Z.di 1 dD rfl rfl rfl
 case FT=>(intro _;exact Z.call rfl rfl (λH=>hp2 H))
 case FU=>(intro _;exact Z.fa tY rfl)
 case PG=>exact Z.QJ 1 av rfl rfl rfl
 case FV=>(intro _;exact Z.call rfl rfl (λH=>hcp H))
 case FW=>(intro _;exact Z.fa vF rfl)
 refine CH.df U U ?_
 refine D.st 1 dD U U U U U U U U (λ_=>?_)
 refine CH.cons U U (by decide) ?_
 refine D.qu (Z.fa vG U) ?_
 refine CH.df U U ?_
 refine D.st 1 dD U U U U U U U U (λ_=>?_)
 refine CH.cons U U (by decide) ?_
 refine D.qu (Z.fa tY U) ?_
 refine CH.df U U ?_
 refine D.st 1 av U U U U U U U U (λ_=>?_)
 refine CH.nil ?_
 simp only[app,bV]
 refine UQ.then (S.sq (S.rg ?_))
 refine S.qu (Z.dA 1 gy U U U) ?_
 refine S.s (D.st 0 gy U U U U U U U U (λ_=>?_))
 refine US.nil (UQ.then (UW.ret ?_))
 refine S.bK (λhd=>aU (k:=0) hd U U U Gc Gd) ?_
 rfl
theorem M4(e:EV)(hs:Sm e)(H:Hp)(hG:gU H):au Tryz.prog 29 [.agg (mZ e)] H (bz H (.v (.string (aO (dx e))))):=by
 have hm:∀H,gU H->au Tryz.prog 24 [.agg (mZ e)] H (bz H (.agg (aD (dx e)))):=λH h=>wH e hs H h
 have hi:∀H,gU H->au Tryz.prog 66 [.agg (aD (dx e))] H (bz H (.v (.string (aO (dx e))))):=λH h=>tJ _ hs.make.fits hs.make.pr H h
 generalize aO (dx e)=i at*
 generalize dx e=m at*
 obtain⟨eid,ty,key,is,sender,room,prev,dH,depth,time,body⟩:=e
 clear hs
 obtain⟨m0,m1,m2,m3,m4⟩:=m
 obtain⟨b0,b1,b2,b3,b4⟩:=body
 refine aF (n:=6) (H0:=H) (I:=[]) Tryz.func29 (by kernel_rfl) U (by rw[Tryz.ntmps29];rfl) .nil ?_
 refine S.sq (S.rg ?_)
 refine S.dd (D.box U U U (λp1=>?_))
 refine S.qu (Z.as U) ?_
 refine US.nil (UQ.then (S.sq (S.rg ?_)))
 refine S.qu (Z.dA 0 gy U U U) ?_
 refine S.qu (Z.fe U U (λ_ hS=>hm _ (hG.mono hS))) ?_
 refine S.qu (Z.fe U U (λ_ hS=>hi _ (hG.mono hS))) ?_
 refine S.qu (Z.as U) ?_
 refine US.nil (UQ.then (UW.ret ?_))
 refine S.bK (λ_=>ak U U) ?_
 rfl
end Go.Proofs.YtonpfomjoiaacaaGreatDoor
end
