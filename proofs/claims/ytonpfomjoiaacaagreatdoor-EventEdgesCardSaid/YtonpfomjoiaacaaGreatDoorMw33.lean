/- A part of the proof. -/
import Derived.Test.YtonpfomjoiaacaaGreatDoorMw32
import Derived.Laws.RangeString
set_option maxRecDepth 100000
set_option maxHeartbeats 4000000
set_option linter.unusedSectionVars false
set_option linter.unusedVariables false
set_option linter.unusedSimpArgs false
section
namespace Go.Proofs.YtonpfomjoiaacaaGreatDoor
open Go Go.iG Go.RowKit
def yQ(s:ByteArray):Nat->Int
 |0=>0
 |i+1=>(yQ s i*64+kW (eO s (i:Int)))% 65536
def fG(i:Nat):Nat:=(6*i)% 8
def Ew(s:ByteArray):Nat->List Int
 |0=>[]
 |i+1=>if i % 4=0 then Ew s i else Ew s i++[IntKind.u8.wrap (yQ s (i+1)/2^fG (i+1))]
def Ht(s:ByteArray):Option (List Int):=if MB s=true then(if fG s.size=6\/yQ s s.size % 2^fG s.size≠0 then none else some (Ew s s.size)) else none
def jB(s:ByteArray):Bool:=(decide (s.size≠0)&&eO s ((0:Nat):Int)==36)&&(match Ht (s.extract 1 s.size) with|some l=>decide (l.length=32)|none=>false)
theorem LY(s:ByteArray):∀i,(Ew s i).length=i-(i+3)/4
 |0=>rfl
 |i+1=>by
  have ih:=LY s i
  unfold Ew
  split
  ·omega
  ·rw[List.length_append,ih];simp;omega
theorem pnV_bd(s:ByteArray):∀i,0<=yQ s i/\yQ s i<65536
 |0=>⟨Int.le_refl 0,(by decide:(0:Int)<65536)⟩
 |i+1=>by unfold yQ;omega
theorem CY(s:ByteArray)(j:Nat)(h:j+1<s.size):eO (s.extract 1 s.size) (j:Int)=eO s ((j+1:Nat):Int):=by
 rw[iL _ _ (by simp;omega),iL _ _ h]
 simp[ByteArray.data_extract,Nat.add_comm]
theorem LZ(s:ByteArray):MB s=true↔∀j,j<s.size->0<=kW (eO s (j:Int)):=by
 refine⟨λh j hj=>of_decide_eq_true (List.all_eq_true.1 h j (List.mem_range.2 hj)),Q9⟩
theorem BB{t:ByteArray}(h:t.size=44):jB t=(eO t ((0:Nat):Int)==36&&(MB (t.extract 1 t.size)&&decide (kW (eO t ((43:Nat):Int))% 4=0))):=by
 have hx:(t.extract 1 t.size).size=43:=by simp[h]
 have hp:yQ (t.extract 1 t.size) 43 % 4=kW (eO t ((43:Nat):Int))% 4:=by
  show((yQ (t.extract 1 t.size) 42*64+kW (eO (t.extract 1 t.size) ((42:Nat):Int)))% 65536)% 4=_
  rw[CY t 42 (by omega)]
  show((_*64+kW (eO t ((43:Nat):Int)))% 65536)% 4=_
  omega
 have hl:=LY (t.extract 1 t.size) 43
 unfold jB Ht
 rw[hx]
 generalize Ew (t.extract 1 t.size) 43=P at*
 generalize yQ (t.extract 1 t.size) 43=q at*
 rw[show fG 43=2 from rfl,decide_eq_true (by omega:t.size≠0),Bool.true_and]
 congr 1
 cases hk:MB (t.extract 1 t.size) with
 |false=>rw[if_neg (by decide)];rfl
 |true=>
  rw[if_pos U,Bool.true_and]
  have h4:((2:Int)^2)=4:=by decide
  rw[h4,hp]
  by_cases hd:kW (eO t ((43:Nat):Int))% 4=0
  ·rw[if_neg (by rw[not_or];exact⟨by decide,by rw[Decidable.not_not];exact hd⟩),decide_eq_true hd]
   show decide (P.length=32)=true
   rw[hl];rfl
  ·rw[if_pos (.inr hd),decide_eq_false hd]
def jC(a b:Int):List Int:=a::(List.replicate 30 0++[b])
def fq(a b:Int):ByteArray:=lL++dO (jC a b)
theorem ug{a b:Int}(ha:0<=a/\a<256)(hb:0<=b/\b<256):fo (jC a b):=by
 intro c hc
 unfold jC at hc
 rcases List.mem_cons.1 hc with h|h
 ·rw[h];exact ha
 ·rcases List.mem_append.1 h with h|h
  ·rw[(List.mem_replicate.1 h).2];decide
  ·rw[List.mem_singleton.1 h];exact hb
theorem pX(a b:Int):(jC a b).length=32:=by unfold jC;simp
theorem l9(a b:Int):(fq a b).size=44:=by
 unfold fq
 rw[bf,lU,pX];rfl
theorem yC(a b:Int):(fq a b).extract 1 (fq a b).size=dO (jC a b):=WO lL _
theorem WQ{a b a' b':Int}(ha:0<=a/\a<256)(hb:0<=b/\b<256)(ha':0<=a'/\a'<256)(hb':0<=b'/\b'<256)(h:fq a b=fq a' b'):a=a'/\b=b':=by
 have h1:=yC a b
 rw[h,yC] at h1
 have h2:=Hr _ (ug ha hb)
 rw[<-h1,Hr _ (ug ha' hb')] at h2
 have h3:jC a' b'=jC a b:=Option.some.inj h2
 unfold jC at h3
 have h4:=List.cons.inj h3
 exact⟨h4.1.symm,by have:=List.append_cancel_left h4.2;simpa using this.symm⟩
theorem Sw(all:List Int)(hb:fo all):MB (dO all)=true:=by
 cases h:MB (dO all) with
 |true=>rfl
 |false=>have:=Hr all hb;rw[aay h] at this;cases this
theorem CZ(a b:Int):eO (fq a b) ((0:Nat):Int)=36:=(Jv lL _ 0 (by decide)).trans (by kernel_rfl)
theorem Jy{a b:Int}(ha:0<=a/\a<256)(hb:0<=b/\b<256):kW (eO (fq a b) ((43:Nat):Int))% 4=0:=by
 have hl:=pX a b
 have h1:eO (fq a b) ((43:Nat):Int)=eO (dO (jC a b)) ((42:Nat):Int):=Jw lL _ 42 (by rw[lU,hl];decide)
 have hc:(iE (jC a b) (10*3)).length=2:=by rw[qJ,hl];decide
 have h2:=Eu (jC a b) 10 2 (by omega) (by omega)
 rw[h1,show(42:Nat)=4*10+2 from rfl,h2]
 have hd:=zR (jk (iE (jC a b) (10*3)) 3) 2
 rw[show kW (UH (jk (iE (jC a b) (10*3)) 3) 2)=NJ (jk (iE (jC a b) (10*3)) 3) 2 from Ho hd.1 hd.2]
 have hf:=CX (iE (jC a b) (10*3))
 rw[xe _ 2 (by omega)] at hf
 show(jk (iE (jC a b) (10*3)) 3/64 % 64)% 4=0
 rw[hf]
 omega
theorem Ra{a b:Int}(ha:0<=a/\a<256)(hb:0<=b/\b<256):jB (fq a b)=true:=by
 rw[BB (l9 a b),CZ,yC,Sw _ (ug ha hb),Jy ha hb]
 rfl
theorem OB{a b:Int}(ha:0<=a/\a<256)(hb:0<=b/\b<256){t:ByteArray}{i:Nat}(hi:i<44){c:Int}(hs:t.size=44)(hc:eO t (i:Int)=c)(ho:∀j:Nat,j<44->j≠i->eO t (j:Int)=eO (fq a b) (j:Int)):
 (i=0->jB t=(c==36))/\(i≠0->(kW c<0->jB t=false)/\(0<=kW c->i≠43->jB t=true)):=by
 have hx:(t.extract 1 t.size).size=43:=by simp[hs]
 have hok:∀j,j<43->j+1≠i->0<=kW (eO t ((j+1:Nat):Int)):=λj hj hne=>by
  rw[ho (j+1) (by omega) hne]
  have:=(LZ _).1 (Sw _ (ug ha hb)) j (by rw[lU,pX];exact hj)
  rw[<-yC,CY _ j (by rw[l9];omega)] at this
  exact this
 have hlast:=Jy ha hb
 constructor
 ·intro h0
  subst h0
  have h1:MB (t.extract 1 t.size)=true:=(LZ _).2 λj hj=>by rw[CY t j (by omega)];exact hok j (by omega) (by omega)
  rw[BB hs,h1,ho 43 (by decide) (by decide),hlast]
  have:eO t ((0:Nat):Int)=c:=hc
  rw[this]
  simp
 ·intro hne
  have h0:eO t ((0:Nat):Int)=36:=(ho 0 (by decide) (Ne.symm hne)).trans (CZ a b)
  constructor
  ·intro hneg
   have h1:MB (t.extract 1 t.size)=false:=WL (j:=i-1) (by omega) (by rw[CY t (i-1) (by omega),show i-1+1=i by omega,hc];exact hneg)
   rw[BB hs,h1];simp
  ·intro hpos h43
   have h1:MB (t.extract 1 t.size)=true:=(LZ _).2 λj hj=>by
    rw[CY t j (by omega)]
    by_cases hj:j+1=i
    ·rw[hj,hc];exact hpos
    ·exact hok j (by omega) hj
   rw[BB hs,h1,h0,ho 43 (by decide) (by omega),hlast]
   rfl
def dI(l:List ByteArray):Bool:=decide (l.length<=20)&&(List.range l.length).all λi=>jB (l.getD i ⟨#[]⟩)&&!hasB (l.take i) (l.getD i ⟨#[]⟩)
theorem Jz{l:List ByteArray}(h1:l.length<=20)(h2:∀s∈l,jB s=true)(h3:l.Nodup):dI l=true:=by
 unfold dI
 rw[decide_eq_true h1,Bool.true_and,List.all_eq_true]
 intro i hi
 have hi:=List.mem_range.1 hi
 rw[getD_at hi,h2 _ (List.getElem_mem hi),Bool.true_and]
 cases hh:hasB (l.take i) l[i] with
 |false=>rfl
 |true=>
  have hm:=kJ.1 hh
  obtain⟨j,hj,e⟩:=List.getElem_of_mem hm
  rw[List.length_take] at hj
  rw[List.getElem_take] at e
  exact absurd e (List.pairwise_iff_getElem.1 h3 j i (by omega) hi (by omega))
theorem OC{l:List ByteArray}{i:Nat}(hi:i<l.length)(h:jB l[i]=false\/∃j,∃hj:j<i,l[j]=l[i]):dI l=false:=by
 unfold dI
 have:((List.range l.length).all λi=>jB (l.getD i ⟨#[]⟩)&&!hasB (l.take i) (l.getD i ⟨#[]⟩))=false:=by
  rw[List.all_eq_false]
  refine⟨i,List.mem_range.2 hi,?_⟩
  rw[getD_at hi]
  rcases h with h|⟨j,hj,e⟩
  ·rw[h];simp
  ·have:hasB (l.take i) l[i]=true:=kJ.2 (by
    rw[<-e]
    exact List.mem_iff_getElem.2 ⟨j,by rw[List.length_take];omega,List.getElem_take⟩)
   rw[this];simp
 rw[this,Bool.and_false]
theorem L6{α:Type}[DecidableEq α](f:α->Nat):∀(l m:List α),l.Nodup->(∀x∈l,x∈m)->(l.map f).sum<=(m.map f).sum
 |[],m,_,_=>Nat.zero_le _
 |x::r,m,hn,hs=>by
  have hx:x∈m:=hs x (List.mem_cons_self ..)
  obtain⟨hxr,hnr⟩:=List.nodup_cons.1 hn
  have ih:=L6 f r (m.erase x) hnr λy hy=>(List.mem_erase_of_ne (λe=>hxr (by rw[<-e];exact hy))).2 (hs y (List.mem_cons_of_mem _ hy))
  have hp:(m.map f).sum=f x+((m.erase x).map f).sum:=by
   have:=(List.perm_cons_erase hx).map f
   rw[List.Perm.sum_nat this,List.map_cons,List.sum_cons]
  rw[List.map_cons,List.sum_cons,hp]
  omega
theorem kv_wt(cap:ByteArray->Nat):∀(ks:List ByteArray) (vs:List V),ks.length=vs.length->(∀(i:Nat) (h1:i<ks.length) (h2:i<vs.length),tV vs[i]<=cap ks[i])->vg ks+eP vs<=(ks.map λs=>6*s.size+5+cap s).sum
 |[],[],_,_=>Nat.zero_le _
 |[],_::_,h,_=>by cases h
 |_::_,[],h,_=>by cases h
 |s::r,v::q,h,hc=>by
  have ih:=kv_wt cap r q (by simpa using h) λi h1 h2=>hc (i+1) (by simpa using h1) (by simpa using h2)
  have h0:tV v<=cap s:=hc 0 (by simp) (by simp)
  rw[vg,eP,List.map_cons,List.sum_cons]
  omega
theorem obj_wt{x:V}(ho:O x)(cap:ByteArray->Nat)(L:List ByteArray)(h:∀key v,aH x key=(v,true)->tV v<=cap key/\key∈L):tV x<=30+(L.map λs=>6*s.size+5+cap s).sum:=by
 have hl:=ho.len
 have h1:=kv_wt cap x.ks x.vs hl λi h1 h2=>(h _ _ (ho.at i h1 h2)).1
 have hnd:x.ks.Nodup:=List.pairwise_iff_getElem.2 λi j hi hj hij e=>by have:=LD ho.GU hi hj e;omega
 have h2:=L6 (λs=>6*s.size+5+cap s) x.ks L hnd λs hs=>by
  have:=ho.has.2 hs
  exact(h s (aH x s).1 (by rw[<-this])).2
 rw[G6,ho.t]
 show 30+6*0+vg x.ks+eP x.vs<=_
 omega
def WR:ByteArray:=⟨#[117,115,101,114,115]⟩
def Sy:ByteArray:=⟨#[101,118,101,110,116,115]⟩
def Rb(key:ByteArray):Nat:=if key=WR\/key=Sy then 10600 else 200
theorem Sz(key:ByteArray):200<=Rb key:=by unfold Rb;split<;>omega
theorem Uk{c:List Int}(hc:wy c)(k:Int)(j:Nat):tV (qP c k j)<=Rb (oD c j)/\cZ (qP c k j)<=30:=by
 have hs:∀t:ByteArray,t.size<=20->tV (dz t)<=Rb (oD c j)/\cZ (dz t)<=30:=λt h=>by
  have e:tV (dz t)=30+6*t.size+0+0:=j3 ..
  have:=Sz (oD c j)
  have d:cZ (dz t)<=1:=gN _ _ _
  exact⟨by omega,by omega⟩
 unfold qP
 repeat' split
 ·exact hs _ (lK Og _)
 ·exact hs _ (lK Sg _)
 ·rename_i h
  have hk:oD c j=WR\/oD c j=Sy:=by
   unfold oD
   rcases h with h|h<;>rw[h]
   ·exact .inl U
   ·exact .inr U
  have h1:=(Oe hc _ (Jn (k+(j:Int))).1).wt
  have h2:=(GI c _ (Jn (k+(j:Int))).1).2.2
  unfold Rb
  rw[if_pos hk]
  exact⟨h1,h2⟩
 ·have e:∀n:Int,tV (fu n)=30+6*0+0+0:=λn=>j3 ..
  have:=Sz (oD c j)
  have d:∀n,cZ (fu n)<=1:=λn=>gN _ _ _
  have d1:=d ((c.getD j 0).tmod 120-10)
  exact⟨by rw[e];omega,by omega⟩
theorem JA{c:List Int}(hc:wy c)(k:Int):∀j key v,aH (xz c k j) key=(v,true)->(tV v<=Rb key/\cZ v<=30)/\key∈DD
 |0,key,v,h=>by cases h
 |j+1,key,v,h=>by
  have ho:=(xD c hc k j).1
  by_cases hk:key=oD c j
  ·subst hk
   have:=(ho.gY (oD c j) (qP c k j)).symm.trans h
   obtain rfl:=(Prod.mk.inj this).1
   refine⟨Uk hc k j,?_⟩
   have hb:=oC hc j
   have h0:=Int.tmod_nonneg 10 hb.1
   have h1:=Int.tmod_lt_of_pos (c.getD j 0) (by decide:(0:Int)<10)
   exact fI (by show _<10;omega)
  ·exact JA hc k j key v ((ho.bZ hk _).symm.trans h)
theorem Rc{c:List Int}(hc:wy c)(k:Int):tV (Jm c k)<=25000/\cZ (Jm c k)<=31/\O (Jm c k):=by
 have ho:=(xD c hc k (min c.length 6)).1
 have h:=JA hc k (min c.length 6)
 refine⟨Nat.le_trans (obj_wt ho Rb DD λkey v hv=>⟨(h key v hv).1.1,(h key v hv).2⟩) (by decide),xE.deep (d:=30) (by decide) λv hv=>?_,ho⟩
 obtain⟨i,hi,rfl⟩:=List.getElem_of_mem hv
 have hl:=ho.len
 exact(h _ _ (ho.at i (by rw[hl];exact hi) hi)).1.2
def pF:List ByteArray:=[⟨#[64,97,58,115]⟩,⟨#[64,98,58,115]⟩,⟨#[64,99,58,116]⟩]
def DJ:ByteArray:=⟨#[33,114,58,115]⟩
def Hu:List ByteArray:=[⟨#[]⟩,⟨#[64,97,58,115]⟩,⟨#[107]⟩]
def prevC(n k:Int)(m:Nat):List ByteArray:=(List.range m).map λi:Nat=>fq (i:Int) k
def authC(n k:Int)(m:Nat):List ByteArray:=(List.range m).map λi:Nat=>fq (100+(i:Int)) k
def dx(c:List Int)(k:Int):EV where
 id:=⟨#[]⟩
 ty:=Jl k
 key:=if (c.getD 0 0).tmod 5<3 then Hu.getD ((c.getD 0 0).tmod 5).toNat ⟨#[]⟩ else⟨#[]⟩
 is:=decide ((c.getD 0 0).tmod 5<3)
 sender:=pF.getD ((c.getD 0 0).tmod 3).toNat ⟨#[]⟩
 room:=DJ
 prev:=prevC (c.getD 0 0) k ((c.getD 0 0).tmod 4).toNat
 bL:=authC (c.getD 0 0) k (((c.getD 0 0).tdiv 4).tmod 4).toNat
 depth:=c.getD 0 0
 time:=k*3
 body:=Jm c k
theorem Hw(f:Nat->Int)(k:Int)(hk:0<=k/\k<256)(m:Nat)(hm:m<=20)(hf:∀i,i<m->0<=f i/\f i<256)(hi:∀i j,i<m->j<m->f i=f j->i=j):dI ((List.range m).map λi=>fq (f i) k)=true/\((List.range m).map λi=>fq (f i) k).length<=24/\∀s∈(List.range m).map λi=>fq (f i) k,s.size<=44:=by
 refine⟨Jz (by simpa using hm) (λs hs=>?_) ?_,by simp;omega,λs hs=>?_⟩
 ·obtain⟨i,h,rfl⟩:=List.mem_map.1 hs
  exact Ra (hf i (List.mem_range.1 h)) hk
 ·refine List.pairwise_iff_getElem.2 λi j h1 h2 hij e=>?_
  simp only[List.getElem_map,List.getElem_range] at e
  rw[List.length_map,List.length_range] at h1 h2
  have:=hi i j h1 h2 (WQ (hf i h1) hk (hf j h2) hk e).1
  omega
 ·obtain⟨i,h,rfl⟩:=List.mem_map.1 hs
  rw[l9];decide
theorem Re:∀s∈pF,s.size<=100:=by decide
theorem C8:∀s∈Hu,s.size<=80:=by decide
theorem L8{c:List Int}(hc:wy c)(k:Int)(hk0:0<=k)(hk1:k<256):Sm (dx c k)/\dI (dx c k).prev=true/\dI (dx c k).bL=true/\(dx c k).body.k=5:=by
 obtain⟨b1,b2,b3⟩:=Rc hc k
 obtain⟨g1,g2⟩:=zY hc k (min c.length 6)
 have hb:=oC hc 0
 have m0:=Int.tmod_lt_of_pos (c.getD 0 0) (by decide:(0:Int)<4)
 have m1:=Int.tmod_lt_of_pos ((c.getD 0 0).tdiv 4) (by decide:(0:Int)<4)
 have p1:=Hw (λi:Nat=>(i:Int)) k ⟨hk0,hk1⟩ ((c.getD 0 0).tmod 4).toNat (by omega) (λi h=>by omega) (λi j _ _ h=>by omega)
 have p2:=Hw (λi:Nat=>100+(i:Int)) k ⟨hk0,hk1⟩ (((c.getD 0 0).tdiv 4).tmod 4).toNat (by omega) (λi h=>by omega) (λi j _ _ h=>by omega)
 have ht:(Jl k).size<=20:=lK Oh _
 have hs:(pF.getD ((c.getD 0 0).tmod 3).toNat ⟨#[]⟩).size<=100:=lK Re _
 have hkk:(dx c k).key.size<=80:=by
  show(if _ then _ else _:ByteArray).size<=80
  split
  ·exact lK C8 _
  ·decide
 exact⟨⟨p1.2,p2.2,⟨by show(Jl k).size<=100;omega,by omega,hs,by show DJ.size<=100;decide⟩,⟨⟨by show _<=c.getD 0 0;omega,by show c.getD 0 0<=_;omega⟩,by show _<=k*3;omega,by show k*3<=_;omega⟩,⟨g2.num,b1⟩,b2,g1.fits (by omega),b3,by have:=g1.le;show(xz c k (min c.length 6)).ks.length<=_;omega⟩,p1.1,p2.1,b3.k⟩
def yR:List ByteArray:=pF++[⟨#[64,97,58,98]⟩]
def DK:List ByteArray:=[DJ,⟨#[33,114,58,98]⟩]
def jU(s:ByteArray):Bool:=hasB yR s
def jV(s:ByteArray):Bool:=hasB DK s
abbrev ma(e:EV):Bool:=Bu jU jV dI e
abbrev ic(v:V):EV×Int:=xC jU jV dI v
def Hy(a b:EV):Bool:=a.id.toList==b.id.toList&&a.ty.toList==b.ty.toList&&a.key.toList==b.key.toList&&a.is==b.is&&a.sender.toList==b.sender.toList&&a.room.toList==b.room.toList&&a.depth==b.depth&&a.time==b.time&&mh uF a.prev b.prev&&mh uF a.bL b.bL&&gV a.body b.body
theorem Ul(l:List ByteArray):mh uF l l=true:=nI U λi h _=>by unfold uF;exact beq_self_eq_true _
theorem Aa(e:EV)(h:Fits e.body):Hy e e=true:=by
 unfold Hy
 simp only[beq_self_eq_true,Bool.true_and,Ul,CV _ h]
structure RQ(v:V):Prop extends RD v where
 user:(aH v bQ).1.t=⟨#[]⟩\/(aH v bQ).1.t∈yR
 room:(aH v fQ).1.t=⟨#[]⟩\/(aH v fQ).1.t∈DK
 prev:(∀s∈fC (aH v fK).1,s.size<=1000/\(s.data.toList.all λb=>b.toNat<128)=true)/\(aH v fK).1.vs.length<=1000
 bL:(∀s∈fC (aH v fF).1,s.size<=1000/\(s.data.toList.all λb=>b.toNat<128)=true)/\(aH v fF).1.vs.length<=1000
def jc(s:ByteArray):Bool:=s.data.toList.all λb=>b.toNat<128
theorem pY(s:ByteArray):jc s=true↔∀j,j<s.size->eO s ((j:Nat):Int)<128:=by
 unfold jc
 rw[List.all_eq_true]
 constructor
 ·intro h j hj
  rw[iL s j hj]
  have:=h _ (List.getElem_mem (by simpa using hj:j<s.data.toList.length))
  have:=of_decide_eq_true this
  omega
 ·intro h b hb
  obtain⟨j,hj,rfl⟩:=List.getElem_of_mem hb
  have:=h j (by simpa using hj)
  rw[iL s j (by simpa using hj)] at this
  exact decide_eq_true (by omega)
theorem OD:(List.range 64).all (λd:Nat=>decide (eO mP (d:Int)<128))=true:=by kernel_rfl
theorem Um(n:Int)(j:Nat):UH n j<128:=by
 have hd:=zR n j
 have:=of_decide_eq_true (List.all_eq_true.1 OD (NJ n j).toNat (List.mem_range.2 (by omega)))
 rwa [Int.toNat_of_nonneg hd.1] at this
theorem OE(all:List Int)(hb:fo all)(j:Nat)(hj:j<(dO all).size):eO (dO all) ((j:Nat):Int)<128:=by
 have hs:=lU all
 have hk:3*(j/4)<all.length:=by rw[hs] at hj;split at hj<;>omega
 have hjj:j=4*(j/4)+j % 4:=by omega
 have hm:=((uf all (j/4) hk).2.2 (j % 4) (by omega)).1 (by rw[<-hjj];exact hj)
 have:=Eu all (j/4) (j % 4) hk hm
 rw[<-hjj] at this
 rw[this]
 exact Um _ _
theorem qV{a b:Int}(ha:0<=a/\a<256)(hb:0<=b/\b<256):jc (fq a b)=true:=by
 rw[pY]
 intro j hj
 rw[l9] at hj
 have h43:(dO (jC a b)).size=43:=by rw[lU,pX];rfl
 cases j with
 |zero=>rw[CZ];decide
 |succ j=>
  have h1:eO (fq a b) ((j+1:Nat):Int)=eO (dO (jC a b)) ((j:Nat):Int):=by
   have:=Jw lL (dO (jC a b)) j (by omega)
   rw[show lL.size+j=j+1 by show 1+j=_;omega] at this
   exact this
  rw[h1]
  exact OE _ (ug ha hb) j (by omega)
structure D9(e:EV):Prop extends Sm e where
 user:e.sender∈yR
 rm:e.room∈DK
 pa:∀s∈e.prev,jc s=true
 aa:∀s∈e.bL,jc s=true
 b5:e.body.k=5
theorem pG{v:V}{e:EV}(hv:RD v)(h:vX v e)(hs:D9 e):RQ v where
 toRD:=hv
 user:=.inr (by rw[h.sender];exact hs.user)
 room:=.inr (by rw[h.room];exact hs.rm)
 prev:=by
  rw[h.prev,kM]
  exact⟨λs hm=>⟨by have:=hs.prev.2 s hm;omega,hs.pa s hm⟩,by show(e.prev.map dz).length<=_;rw[List.length_map];have:=hs.prev.1;omega⟩
 bL:=by
  rw[h.bL,kM]
  exact⟨λs hm=>⟨by have:=hs.bL.2 s hm;omega,hs.aa s hm⟩,by show(e.bL.map dz).length<=_;rw[List.length_map];have:=hs.bL.1;omega⟩
theorem Rf(i:Nat)(h:i<3):pF.getD i ⟨#[]⟩∈yR:=List.mem_append_left _ (fI h)
theorem vF{c:List Int}(hc:wy c)(k:Int)(hk0:0<=k)(hk1:k<256):D9 (dx c k)/\ma (dx c k)=true:=by
 obtain⟨h1,h2,h3,h4⟩:=L8 hc k hk0 hk1
 have hb:=oC hc 0
 have m0:=Int.tmod_nonneg 3 hb.1
 have m1:=Int.tmod_lt_of_pos (c.getD 0 0) (by decide:(0:Int)<3)
 have m2:=Int.tmod_lt_of_pos (c.getD 0 0) (by decide:(0:Int)<4)
 have m3:=Int.tmod_lt_of_pos ((c.getD 0 0).tdiv 4) (by decide:(0:Int)<4)
 have hu:(dx c k).sender∈yR:=Rf _ (by omega)
 refine⟨⟨h1,hu,List.mem_cons_self ..,λs hs=>?_,λs hs=>?_,h4⟩,?_⟩
 ·obtain⟨i,hi,rfl⟩:=List.mem_map.1 hs
  have:=List.mem_range.1 hi
  exact qV (by omega) ⟨hk0,hk1⟩
 ·obtain⟨i,hi,rfl⟩:=List.mem_map.1 hs
  have:=List.mem_range.1 hi
  exact qV (by omega) ⟨hk0,hk1⟩
 ·have ht:(dx c k).ty.size<=80:=Nat.le_trans (lK Oh _) (by decide)
  have ht0:(dx c k).ty.size≠0:=by
   have m4:=Int.tmod_nonneg 7 hk0
   have m5:=Int.tmod_lt_of_pos k (by decide:(0:Int)<7)
   have hz:∀s∈Jk,s.size≠0:=by decide
   exact hz _ (fI (by show _<7;omega))
  have hk:(dx c k).key.size<=80:=by
   show(if _ then _ else _:ByteArray).size<=80
   split
   ·exact lK C8 _
   ·decide
  have hup:jU (dx c k).sender=true:=kJ.2 hu
  have hrp:jV (dx c k).room=true:=by kernel_rfl
  unfold ma Bu oP
  rw[decide_eq_true ht0,decide_eq_true ht,hup,hrp,h2,h3,decide_eq_true (show 0<=(dx c k).depth from hb.1),decide_eq_true (show 0<=(dx c k).time by show 0<=k*3;omega),decide_eq_true hk]
  simp
def oG:List (ByteArray×Int):=[(dN,3),(bQ,3),(fQ,3),(fK,4),(fF,4),(dU,2),(iK,2),(aO,5),(aY,5)]
theorem C9{v:V}{key:ByteArray}{k:Int}(hk:(key,k)∈oG)(h:r9 v key k=false):ic v=(zeroE,15):=by
 unfold ic xC
 rw[ok_no jU jV dI hk h,if_pos U]
theorem L9{v:V}(ho:O v){key:ByteArray}{k:Int}(hk:(key,k)∈oG):ic (bq v key)=(zeroE,15):=by
 refine C9 hk ?_
 unfold r9
 rw[ho.G8];rfl
theorem Un{v:V}(ho:O v){key:ByteArray}{k:Int}(hk:(key,k)∈oG)(hh:key≠aY){y:V}(hy:y.k≠k):ic (dE (aQ v key y))=(zeroE,15):=by
 refine C9 hk ?_
 have:aH (dE (aQ v key y)) key=(y,true):=((ho.with key y).bZ hh _).trans (ho.gY key y)
 unfold r9
 rw[this]
 show(true&&decide (y.k=k))=false
 rw[decide_eq_false hy];rfl
theorem Rh{v:V}(ho:O v){y:V}(hy:y.k≠3):ic (dE (aQ v dK y))=(zeroE,15):=by
 have:aH (dE (aQ v dK y)) dK=(y,true):=((ho.with dK y).bZ (by decide) _).trans (ho.gY dK y)
 have hn:Sr jU jV dI (dE (aQ v dK y))=false:=by
  unfold Sr
  rw[this]
  show(_&&(!true||(decide (y.k=3)&&_)))=false
  rw[decide_eq_false hy]
  simp
 unfold ic xC
 rw[hn,if_pos U]
theorem RD.with{v:V}{N:Nat}(h1:O v)(h2:Ev v N)(hN:N+1<=20){W:Nat}(h3:Wt W v)(h4:xE 31 v){key:ByteArray}{y:V}{ah K:Nat}(hk:key.size<=K)(hK:K<=4000000)(hy:Fits y)(hw:Wt ah y)(hd:cZ y<=31)(hb:W+ah+6*K+5<=60000):RD (aQ v key y):=by
 have he:=h2.with (key:=key) (by omega) hy
 exact⟨h1.with _ _,⟨he.k,he.len,he.GU,by have:=he.le;omega,he.keys,he.vals⟩,(h3.with hw hk).up hb,h4.with h1 hd⟩
theorem Uo(t:ByteArray)(ht:t.size<=50):Fits (mV t)/\Wt 500 (mV t)/\cZ (mV t)<=31:=⟨zX t,.sealO t ht,by have:=Js t;omega⟩
theorem wo_le(x:V)(key:ByteArray):(bq x key).ks.length<=x.ks.length:=by
 unfold bq
 split
 ·show(cutAt (cutV x).ks _).length<=_
  unfold cutAt cutV
  rw[List.length_append,List.length_take,List.length_drop,zl,List.length_take]
  omega
 ·exact Nat.le_refl _
theorem qa{e:EV}(h:Sm e){key:ByteArray}{y:V}(hk:key.size<=20)(hy:Fits y)(hw:Wt 10000 y)(hd:cZ y<=31):RD (aQ (aL e) key y)/\RD (dE (aQ (aL e) key y)):=by
 obtain⟨h1,h2,h3⟩:=h.made
 have a:=RD.with (lS e) h1 (by decide) h2 h3 hk (by decide) hy hw hd (by decide)
 refine⟨a,?_⟩
 have b1:=(h1.with (key:=key) (by omega) hy)
 have b2:=h2.with hw hk
 have s:=Uo (ed (aQ (aL e) key y)) (Ha _)
 exact RD.with a.o b1 (by decide) b2 a.deep (by decide:aY.size<=6) (by decide) s.1 s.2.1 s.2.2 (by decide)
theorem Ma{e:EV}(h:Sm e)(key:ByteArray):RD (bq (aL e) key):=by
 have hr:=h.make
 obtain⟨ks',vs',e1,e2,e3,_,e5,e6⟩:=LP (n:=0) (t:=⟨#[]⟩) hr.o.len hr.o.GU key
 have hf:=hr.o.form
 rw[<-hf] at e1
 have ho:=hr.o.wo key
 have hl:(bq (aL e) key).ks.length<=20:=by
  have:=wo_le (aL e) key
  have:=hr.ev.le
  omega
 refine⟨ho,⟨ho.k,ho.len,ho.GU,hl,λs hs=>?_,λv hv=>?_⟩,hr.wt.without key,λv hv=>?_⟩
 ·rw[e1] at hs;exact hr.ev.keys s (e5 s hs)
 ·rw[e1] at hv;exact hr.ev.vals v (e6 v hv)
 ·rw[e1] at hv;exact hr.deep v (e6 v hv)
def jd:ByteArray:=⟨#[101,120,116,114,97]⟩
theorem one_num:Fits (fu 1)/\Wt 10000 (fu 1)/\cZ (fu 1)<=31:=⟨kK _ _ _,.leaf (by decide) (by decide),by have:cZ (fu 1)<=1:=gN _ _ _;omega⟩
theorem Ri{e:EV}(hs:D9 e)(hf:ma e=true):ic (dE (aQ (aL e) jd (fu 1)))=({nS e with id:=oI (dE (aQ (aL e) jd (fu 1)))},0)/\
 ic (aQ (aL e) jd (fu 1))=(if (ed (aQ (aL e) jd (fu 1))).toList=(ed (aL e)).toList then({nS e with id:=oI (aQ (aL e) jd (fu 1))},0) else(zeroE,17)):=by
 obtain⟨r1,r2⟩:=qa hs.toSm (key:=jd) (by decide) one_num.1 one_num.2.1 one_num.2.2
 have hb:=(fD e).with (lS e) (key:=jd) (by kernel_rfl) (fu 1)
 refine⟨yB jU jV dI (hb.qR r1.o) r2 hs.b5 hf (DI r1.o),?_⟩
 have hh:jN (aQ (aL e) jd (fu 1))=((ed (aQ (aL e) jd (fu 1))).toList==(ed (iw e)).toList):=He (lH e) (by decide) _
 have hm:ed (aL e)=ed (iw e):=(lH e).xA
 rw[hm]
 by_cases he:(ed (aQ (aL e) jd (fu 1))).toList=(ed (iw e)).toList
 ·rw[if_pos he]
  exact yB jU jV dI hb r1 hs.b5 hf (by rw[hh,he];simp)
 ·rw[if_neg he]
  have hf:Bu jU jV dI e=true:=hf
  have h1:=hb.ok hs.b5 jU jV dI
  have h2:=r1.dep
  have h3:=r1.print
  unfold ic xC
  rw[h1,hf,if_neg (by decide),if_neg (by omega),if_neg (by omega),hh,gG he,if_pos U]
theorem Iu{e:EV}(hs:D9 e)(hf:ma e=true):ic (aQ (aL e) cz (fu 1))=({nS e with id:=oI (aL e)},0)/\RD (aQ (aL e) cz (fu 1))/\oI (aQ (aL e) cz (fu 1))=oI (aL e):=by
 obtain⟨r1,_⟩:=qa hs.toSm (key:=cz) (by decide) one_num.1 one_num.2.1 one_num.2.2
 have hb:=(fD e).with (lS e) (key:=cz) (by kernel_rfl) (fu 1)
 have hi:oI (aQ (aL e) cz (fu 1))=oI (aL e):=by
  have:jT (aQ (aL e) cz (fu 1))=jT (aL e):=r1.o.red_eq (lS e) λkey hk=>(lS e).bZ (λe=>by rw[e,show hasB dH cz=false by kernel_rfl] at hk;cases hk) _
  unfold oI
  rw[this]
 have:=yB jU jV dI hb r1 hs.b5 hf (Ir (lH e) (fu 1))
 rw[hi] at this
 exact⟨this,r1,hi⟩
theorem Da{e:EV}(hs:D9 e)(hf:ma e=true):ic (aL e)=({nS e with id:=oI (aL e)},0):=yB jU jV dI (fD e) hs.make hs.b5 hf (DI (lH e))
theorem OG{e:EV}(hs:D9 e)(hf:ma e=false):ic (aL e)=(zeroE,15):=Oy jU jV dI (fD e) hs.b5 hf
theorem di:eQ Tryz.prog 28=some (true,15):=by kernel_rfl
theorem z28:(Tryz.prog.info? 28).map (·.zero)=some (some (.agg #[.string ⟨#[]⟩,.string ⟨#[]⟩,.string ⟨#[]⟩,.bool false,.string ⟨#[]⟩,.string ⟨#[]⟩,.slice none 0 0,.slice none 0 0,.int .i64 0,.int .i64 0,.int .i64 0,.int .i64 0,.string ⟨#[]⟩,.slice none 0 0,.slice none 0 0])):=by kernel_rfl
theorem su:dP Tryz.prog 28 0=some 0:=by kernel_rfl
theorem qW:dP Tryz.prog 28 1=some 1:=by kernel_rfl
theorem sD:dP Tryz.prog 28 2=some 2:=by kernel_rfl
theorem jW:dP Tryz.prog 28 3=some 3:=by kernel_rfl
theorem Hz:dP Tryz.prog 28 4=some 4:=by kernel_rfl
theorem HV:dP Tryz.prog 28 5=some 5:=by kernel_rfl
theorem oH:dP Tryz.prog 28 6=some 6:=by kernel_rfl
theorem o5:dP Tryz.prog 28 7=some 7:=by kernel_rfl
theorem mX:dP Tryz.prog 28 8=some 8:=by kernel_rfl
theorem mY:dP Tryz.prog 28 9=some 9:=by kernel_rfl
theorem vG:dP Tryz.prog 28 10=some 10:=by kernel_rfl
theorem WS:dP Tryz.prog 69 0=some 0:=by kernel_rfl
theorem jh:dP Tryz.prog 69 1=some 5:=by kernel_rfl
theorem ft28_0:Go.iG.uj Tryz.prog 28 0=some (0,false,1):=by kernel_rfl
theorem wh:oJ Tryz.prog 28=some ([.string ⟨#[]⟩,.string ⟨#[]⟩,.string ⟨#[]⟩,.bool false,.string ⟨#[]⟩,.string ⟨#[]⟩,.slice none 0 0,.slice none 0 0,.int .i64 0,.int .i64 0,.int .i64 0,.int .i64 0,.string ⟨#[]⟩,.slice none 0 0,.slice none 0 0],[(0,1),(1,1),(2,1),(3,1),(4,1),(5,1),(6,1),(7,1),(8,1),(9,1),(10,5)]):=by kernel_rfl
theorem Uq:oJ Tryz.prog 69=some ([.int .i64 0,.int .i64 0,.string ⟨#[]⟩,.slice none 0 0,.slice none 0 0,.bool false],[(0,5),(5,1)]):=by kernel_rfl
theorem Iw:∃fs,Tryz.prog.underlying 28=some (.struct fs):=⟨_,Tryz.underlying28⟩
theorem Iy:(Tryz.prog.info? 28).map (·.size)=some 15:=by kernel_rfl
def BC(s:ByteArray)(c:Int):Bool:=decide (s.size≠0)&&eO s ((0:Nat):Int)==c
theorem Ur{a b:Int}(ha:0<=a/\a<256)(hb:0<=b/\b<256):((aN a).toList==(aN b).toList)=(a==b):=by
 by_cases h:a=b
 ·rw[h];simp
 ·rw[gG λe=>h ?_,show(a==b)=false by simpa using h]
  have:=congrArg (λs=>eO s ((0:Nat):Int)) (gI e)
  simp only[tZ ha,tZ hb] at this
  exact this
theorem OH(s:ByteArray)(c:Int)(hc:0<=c/\c<256)(H:Hp):au Tryz.prog 208 [.v (.string s),.v (.string (aN c))] H (bB H (.v (.bool (BC s c)))):=by
 have hz:(aN c).size=1:=rfl
 have hb:=ql s ((0:Nat):Int)
 unfold BC
 generalize hB:aN c=B at*
 by_cases h0:s.size=0
 ·rw[decide_eq_false (by omega:¬s.size≠0),Bool.false_and]
  refine aF (n:=18) (H0:=H) (I:=[]) Tryz.func208 (by kernel_rfl) U (by rw[Tryz.ntmps208];rfl) .nil<|?_
  refine Q.rg<|Q.as U<|Q.nt<|Q.rg<|Q.mv U<|S.qu (Z.wm Tryz.underlying9 U)<|Q.mv U<|S.qu (Z.wm Tryz.underlying9 U)<|Q.bi U U U<|Q.mv U<|?_
  refine S.tD 10 (λzq=>?_) (λzq=>?_)
  omega
  refine Q.of<|Q.of<|Q.of<|Q.of<|Q.of<|Q.of<|Q.pk U U<|Q.as U<|Q.nt<|UW.ret<|S.bH (λ_=>ak U U)<|?_
  rfl
 ·have he:s.extract 0 1=aN (eO s ((0:Nat):Int)):=rV s 0 (by omega)
  have hi:((aN (eO s ((0:Nat):Int))).toList==B.toList)=(eO s ((0:Nat):Int)==c):=by rw[<-hB];exact Ur hb hc
  rw[decide_eq_true (by omega:s.size≠0),Bool.true_and]
  refine aF (n:=18) (H0:=H) (I:=[]) Tryz.func208 (by kernel_rfl) U (by rw[Tryz.ntmps208];rfl) .nil<|?_
  focus
   refine Q.rg<|Q.as U<|Q.nt<|Q.rg<|Q.mv U<|S.qu (Z.wm Tryz.underlying9 U)<|Q.mv U<|S.qu (Z.wm Tryz.underlying9 U)<|Q.bi U U U<|Q.mv U<|?_
   refine S.tD 10 (λzq=>?_) (λzq=>?_)
   rotate_left
   omega
   refine Q.on (Z.mv U)<|Q.on (Z.mv U)<|Q.on (Z.wm Tryz.underlying9 U)<|Q.on (Z.eq (u':=.v (.string (aN (eO s ((0:Nat):Int))))) (Z.slt (p:=s) (m:=0) (m':=1) Tryz.underlying9 U (.hi (a:=1) (by rw[hz];rfl)) (by omega) (by omega)) (by rw[he]))<|?_
   refine Q.on (Z.mv U)<|Q.on (Z.eq (u':=.v (.bool (eO s ((0:Nat):Int)==c))) (Z.bs U U U) (by rw[hi]))<|?_
   refine Q.pk U U<|Q.as U<|Q.nt<|UW.ret<|S.bH (λ_=>ak U U)<|?_
   rfl
theorem Mc(s:ByteArray)(c:Int)(hc:0<=c/\c<256)(H:Hp):au Tryz.prog 182 [.v (.string s),.v (.string (aN c))] H (bB H (.kX [.v (.string (if BC s c=true then s.extract 1 s.size else s)),.v (.bool (BC s c))])):=by
 have hz:(aN c).size=1:=rfl
 have hp:=OH s c hc
 have hs:BC s c=true->1<=s.size:=λh=>by
  unfold BC at h
  by_cases h0:s.size=0
  ·rw[decide_eq_false (by omega:¬s.size≠0)] at h;cases h
  ·omega
 generalize aN c=B at*
 cases hb:BC s c with
 |true=>
  have hs:=hs hb
  rw[hb] at hp
  refine aF (n:=15) (H0:=H) (I:=[]) Tryz.func182 (by kernel_rfl) U (by rw[Tryz.ntmps182];rfl) .nil<|?_
  refine Q.rg<|Q.as U<|Q.as U<|Q.nt<|S.sq<|Q.rg<|Q.mv U<|Q.mv U<|S.qu (Z.call U U (λH=>hp H))<|S.qu (Z.not U)<|Q.nt<|S.cF U U<|UW.skip<|UQ.then<|Q.rg<|Q.mv U<|Q.mv U<|S.qu (Z.wm Tryz.underlying9 U)<|S.qu (Z.slt (p:=s) (m:=1) (m':=s.size) Tryz.underlying9 U (.lo (a:=1) (by rw[hz];rfl)) (by omega) (by omega))<|?_
  refine Q.as U<|Q.as U<|Q.nt<|UW.ret<|S.bH (λhd=>gF U (bJ U) (bJ U))<|?_
  rfl
 |false=>
  rw[hb] at hp
  refine aF (n:=15) (H0:=H) (I:=[]) Tryz.func182 (by kernel_rfl) U (by rw[Tryz.ntmps182];rfl) .nil<|?_
  refine Q.rg<|Q.as U<|Q.as U<|Q.nt<|S.sq<|Q.rg<|Q.mv U<|Q.mv U<|S.qu (Z.call U U (λH=>hp H))<|S.qu (Z.not U)<|Q.nt<|S.cT U U<|Q.rg<|Q.mv U<|Q.as U<|Q.as U<|Q.nt<|UW.ret<|UQ.ax<|S.bH (λhd=>gF U (bJ U) (bJ U))<|?_
  rfl
theorem xG(s:ByteArray)(c:Int)(hc:0<=c/\c<256)(H:Hp):au Tryz.prog 135 [.v (.string s),.v (.string (aN c))] H (bB H (.kX [.v (.string (if BC s c=true then s.extract 1 s.size else s)),.v (.bool (BC s c))])):=by
 have hp:=Mc s c hc
 generalize aN c=B at*
 refine aF (n:=11) (H0:=H) (I:=[]) Tryz.func135 (by kernel_rfl) U (by rw[Tryz.ntmps135];rfl) .nil<|?_
 refine Q.rg<|Q.as U<|Q.as U<|Q.nt<|Q.rg<|Q.mv U<|Q.mv U<|S.qu (Z.call U U (λH=>hp H))<|S.qu (Z.ex U U)<|S.qu (Z.ex U U)<|Q.as U<|Q.as U<|Q.nt<|UW.ret<|S.bH (λhd=>gF U (bJ U) (bJ U))<|?_
 rfl
theorem WT:(List.range 128).all (λr:Nat=>Lib.indexByte mP.data.toList r.toUInt8==kW (r:Int))=true:=by kernel_rfl
theorem BD(r:Int)(h0:0<=r)(h1:r<128)(H:Hp):au Tryz.prog 187 [.v (.string mP),.v (.int .i32 r)] H (bB H (.v (.int .i64 (kW r)))):=
 au.wM ⟨_,Tryz.func187,by kernel_rfl,by kernel_rfl⟩ λρ w vals hh hr=>by
  obtain⟨hl,hr⟩:=hr
  match vals,hl,hr with
  |[a,b],hl,hr=>
   have e1:=aV (hr 0 _ _ U U)
   have e2:=aV (hr 1 _ _ U U)
   subst e1 e2
   refine(Tryz.strings_IndexRune_ascii mP r w h0 h1).mono<|?_
   rintro e w' ⟨he,rfl⟩
   have:=List.all_eq_true.1 WT r.toNat (List.mem_range.2 (by omega))
   rw[Int.toNat_of_nonneg h0] at this
   have h2:Lib.indexByte mP.data.toList r.toNat.toUInt8=kW r:=by simpa using this
   rw[h2] at he
   exact⟨he,Below.refl _ _⟩
theorem JB(s:ByteArray)(i:Nat)(h:i<s.size)(ha:eO s (i:Int)<128):((Utf8.decode s i).1:Int)=eO s (i:Int)/\(Utf8.decode s i).2=1:=by
 have e:eO s (i:Int)=((s[i]'h).toNat:Int):=by unfold eO;rw[dif_pos (by simpa using h)];rfl
 have:=decode_ascii s i h (by omega)
 rw[this,e]
 exact⟨rfl,rfl⟩
theorem JC(i:Nat):(i % 4=0->fG (i+1)=fG i+6/\fG i=0)/\(¬i % 4=0->fG (i+1)+8=fG i+6):=by
 unfold fG
 obtain⟨q,r,hr,rfl⟩:∃q r,r<4/\i=4*q+r:=⟨i/4,i % 4,by omega,by omega⟩
 match r,hr with
 |0,_=>omega
 |1,_=>omega
 |2,_=>omega
 |3,_=>omega
theorem OI(i:Nat):fG i<=6:=by unfold fG;omega
def backP:Option (List Int)->AV
 |some l=> .kX [.sl (bC l),.v (.bool true)]
 |none=> .kX [.v (.slice none 0 0),.v (.bool false)]
theorem aaB{s:ByteArray}(h:MB s=false):Ht s=none:=by unfold Ht;rw[if_neg (by rw[h];decide)]
theorem or6(a c:Int)(ha:0<=a)(ha2:a<16777216)(hc:0<=c)(hck:c<64):IntKind.i64.wrap (BitVec.ofInt IntKind.i64.bits (a*64)|||BitVec.ofInt IntKind.i64.bits c).toNat=a*64+c:=by
 obtain⟨a,rfl⟩:=Int.eq_ofNat_of_zero_le ha
 obtain⟨c,rfl⟩:=Int.eq_ofNat_of_zero_le hc
 have h1:((a:Int)*64)=((a*2^6:Nat):Int):=by simp
 have h2:c<2^6:=by omega
 rw[h1]
 rw[show IntKind.i64.bits=64 from rfl,BitVec.toNat_or,BitVec.toNat_ofInt,BitVec.toNat_ofInt]
 have e1:(((a*2^6:Nat):Int)%((2^64:Nat):Int)).toNat=a*2^6:=by omega
 have e2:(((c:Nat):Int)%((2^64:Nat):Int)).toNat=c:=by omega
 rw[e1,e2,<-Nat.shiftLeft_eq,<-Nat.shiftLeft_add_eq_or_of_lt h2,Nat.shiftLeft_eq,IntWalk.i64_in _ (by omega)]
 omega
theorem andB(a m:Int)(b:Nat)(hb:m=((2^b-1:Nat):Int))(hm:2^b<=65536)(ha:0<=a)(ha2:a<16777216):IntKind.i64.wrap (BitVec.ofInt IntKind.i64.bits a&&&BitVec.ofInt IntKind.i64.bits m).toNat=((a.toNat % 2^b:Nat):Int):=by
 obtain⟨a,rfl⟩:=Int.eq_ofNat_of_zero_le ha
 rw[hb,show IntKind.i64.bits=64 from rfl,BitVec.toNat_and,BitVec.toNat_ofInt,BitVec.toNat_ofInt]
 have e1:(((a:Nat):Int)%((2^64:Nat):Int)).toNat=a:=by omega
 have e2:(((2^b-1:Nat):Int)%((2^64:Nat):Int)).toNat=2^b-1:=by omega
 have hl:a % 2^b<=a:=Nat.mod_le _ _
 rw[e1,e2,Nat.and_two_pow_sub_one_eq_mod,IntWalk.i64_in _ (by omega)]
 rfl
theorem and16(a:Int)(ha:0<=a)(ha2:a<16777216):IntKind.i64.wrap (BitVec.ofInt IntKind.i64.bits a&&&BitVec.ofInt IntKind.i64.bits 65535).toNat=a % 65536:=by
 rw[andB a 65535 16 (by decide) (by decide) ha ha2,show(2:Nat)^16=65536 from rfl]
 omega
theorem shl6(a:Int)(ha:0<=a)(ha2:a<65536):IntKind.i64.wrap (a*2^min (6:Int).toNat IntKind.i64.bits)=a*64:=by
 show IntKind.i64.wrap (a*2^6)=_
 rw[IntWalk.i64_in _ (by omega)];omega
theorem shrB(a:Int)(b:Nat)(hb:b<=6):a.fdiv (2^min ((b:Nat):Int).toNat IntKind.i64.bits)=a/2^b:=by
 have e:min ((b:Nat):Int).toNat IntKind.i64.bits=b:=by
  have:IntKind.i64.bits=64:=rfl
  omega
 have hp:(0:Int)<2^b:=Int.pow_pos (by decide)
 rw[e,Int.fdiv_eq_ediv_of_nonneg _ (by omega)]
theorem shlB:∀b:Nat,b<=6->IntKind.i64.wrap (1*2^min ((b:Nat):Int).toNat IntKind.i64.bits)=((2^b:Nat):Int)
 |0,_|1,_|2,_|3,_|4,_|5,_|6,_=>by decide
 |b+7,h=>by omega
theorem xH(s:ByteArray)(hs:s.size<=100000)(ha:jc s=true)(H:Hp):au Tryz.prog 139 [.v (.string s)] H (bB H (backP (Ht s))):=by
 have hab:=(pY s).1 ha
 refine aF (n:=48) (H0:=H) (I:=[]) Tryz.func139 (by kernel_rfl) U (by rw[Tryz.ntmps139];rfl) .nil<|?_
 refine Q.rg<|Q.as U<|Q.as U<|Q.nt<|Q.rg<|Q.as U<|Q.nt<|Q.rg<|Q.as U<|Q.as U<|Q.nt<|S.sq<|Q.rg<|Q.mv U<|S.dd<|D.rg Tryz.underlying9 U λVX=>US.kZ 4 5 1 (by decide) U λid=>Q.nt<|UW.block<|S.loop (λx:Nat×Nat=>[(11,.ptr VX 0),(6,.v (.int .i64 (yQ s x.1))),(5,.v (.int .i64 ((fG x.1:Nat):Int))),(4,.own x.2 0 (Ew s x.1).length 1)]) (λx=>[(x.2,.row 5 1 (bC (Ew s x.1))),(VX,.iter s x.1)]) (λx=>x.1<=s.size/\∀j,j<x.1->0<=kW (eO s (j:Int))) (λx=>s.size-x.1) (0,id) ⟨Nat.zero_le _,λj hj=>absurd hj (Nat.not_lt_zero _)⟩ ⟨rfl,rfl,rfl,rfl,trivial⟩ (.refl _)<|?_
 rintro⟨i,id⟩ ⟨hi,hok⟩
 dsimp only at hi hok⊢
 have hpl:=LY s i
 have hel:=dD (Ew s i)
 have hpb:=pnV_bd s i
 have hbl:=OI i
 by_cases hlt:i<s.size
 ·obtain⟨hd1,hd2⟩:=JB s i hlt (hab i hlt)
  have hbb:=ql s (i:Int)
  have hb128:=hab i hlt
  by_cases hneg:kW (eO s (i:Int))<0
  ·have hdec:Ht s=none:=aaB (WL hlt hneg)
   rw[hdec]
   refine Q.rg<|S.dd<|D.nx 1 U U (by omega) U<|?_
   rw[hd2]
   refine S.qu (Z.ex U U)<|Q.nt<|S.sq<|S.cT U U<|UW.skip<|UQ.then<|UW.block<|Q.rg<|S.qu (Z.eq (u':=.v (.int .i32 (eO s (i:Int)))) (Z.ex U U) (by rw[hd1]))<|?_
   refine Q.as U<|Q.nt<|Q.rg<|Q.mv U<|S.qu (Z.call U U (λH=>BD _ hbb.1 hb128 H))<|Q.as U<|Q.nt<|S.sq<|Q.rg<|Q.mv U<|Q.bi U U U<|Q.nt<|S.cT U (decide_eq_true (by omega))<|Q.rg<|Q.as U<|Q.as U<|Q.nt<|UW.ret<|UQ.ax<|UQ.aI<|UQ.ax<|UQ.aI<|UQ.ax<|S.bH (λhd=>gF U (bJ U) (bJ U))<|?_
   rfl
  ·have hsb:=aau (eO s (i:Int))
   have hokn:∀j,j<i+1->0<=kW (eO s (j:Int)):=λj hj=>by
    rcases Nat.lt_succ_iff_lt_or_eq.1 hj with h|h
    ·exact hok j h
    ·rw[h];omega
   have hpn:yQ s (i+1)=(yQ s i*64+kW (eO s (i:Int)))% 65536:=rfl
   have hir:=BD (eO s (i:Int)) hbb.1 hb128
   generalize kW (eO s (i:Int))=d at*
   have hs1:=shl6 (yQ s i) hpb.1 hpb.2
   have hs2:=or6 (yQ s i) d hpb.1 (by omega) (by omega) hsb.2
   have hs3:=and16 (yQ s i*64+d) (by omega) (by omega)
   by_cases h4:i % 4=0
   ·have hbn:=(JC i).1 h4
    have hpo:Ew s (i+1)=Ew s i:=by rw[Ew,if_pos h4]
    refine Q.rg<|S.dd<|D.nx 1 U U (by omega) U<|?_
    rw[hd2]
    refine S.qu (Z.ex U U)<|Q.nt<|S.sq<|S.cT U U<|UW.skip<|UQ.then<|UW.block<|Q.rg<|S.qu (Z.eq (u':=.v (.int .i32 (eO s (i:Int)))) (Z.ex U U) (by rw[hd1]))<|?_
    refine Q.as U<|Q.nt<|Q.rg<|Q.mv U<|S.qu (Z.call U U (λH=>hir H))<|Q.as U<|Q.nt<|S.sq<|Q.rg<|Q.mv U<|Q.bi U U U<|Q.nt<|S.cF U (decide_eq_false (by omega))<|UW.skip<|UQ.then<|Q.rg<|Q.mv U<|S.qu (Z.shl (r:=yQ s i*64) U U (by decide) hs1)<|Q.mv U<|S.qu (Z.bi (vr:=.int .i64 (yQ s i*64+d)) U U (congrArg (λz=>some (Value.int .i64 z)) hs2))<|S.qu (Z.bi (vr:=.int .i64 (yQ s (i+1))) U U (congrArg (λz=>some (Value.int .i64 z)) (hs3.trans hpn.symm)))<|Q.as U<|Q.nt<|Q.rg<|Q.mv U<|S.qu (Z.add (r:=((fG (i+1):Nat):Int)) U U (by rw[IntWalk.i64_in _ (by omega)];omega))<|?_
    (rw[<-hpo])
    refine Q.as U<|Q.nt<|Q.rg<|Q.mv U<|Q.bi U U U<|Q.nt<|S.cF U (decide_eq_false (by omega))<|UW.skip<|UQ.aB<|?_
    refine S.back (i+1,id) ⟨rfl,rfl,rfl,rfl,trivial⟩ (.refl _) ?_ (by omega)
    all_goals exact⟨hlt,hokn⟩
   ·have hbn:=(JC i).2 h4
    have hpo:Ew s (i+1)=Ew s i++[IntKind.u8.wrap (yQ s (i+1)/2^fG (i+1))]:=by rw[Ew,if_neg h4]
    have hs2':=Cs (Ew s i) (IntKind.u8.wrap (yQ s (i+1)/2^fG (i+1)))
    rw[<-hpo] at hs2'
    have hl2:(Ew s (i+1)).length=(Ew s i).length+1:=by rw[hpo,List.length_append];rfl
    have hsh:=shrB (yQ s (i+1)) (fG (i+1)) (OI _)
    have hab2:(bC (Ew s i)).take (Ew s i).length++[[.v (.int .u8 (IntKind.u8.wrap (yQ s (i+1)/2^fG (i+1))))]]=bC (Ew s (i+1)):=by rw[List.take_of_length_le (by omega),hs2']
    refine Q.rg<|S.dd<|D.nx 1 U U (by omega) U<|?_
    rw[hd2]
    refine S.qu (Z.ex U U)<|Q.nt<|S.sq<|S.cT U U<|UW.skip<|UQ.then<|UW.block<|Q.rg<|S.qu (Z.eq (u':=.v (.int .i32 (eO s (i:Int)))) (Z.ex U U) (by rw[hd1]))<|?_
    refine Q.as U<|Q.nt<|Q.rg<|Q.mv U<|S.qu (Z.call U U (λH=>hir H))<|Q.as U<|Q.nt<|S.sq<|Q.rg<|Q.mv U<|Q.bi U U U<|Q.nt<|S.cF U (decide_eq_false (by omega))<|UW.skip<|UQ.then<|Q.rg<|Q.mv U<|S.qu (Z.shl (r:=yQ s i*64) U U (by decide) hs1)<|Q.mv U<|S.qu (Z.bi (vr:=.int .i64 (yQ s i*64+d)) U U (congrArg (λz=>some (Value.int .i64 z)) hs2))<|S.qu (Z.bi (vr:=.int .i64 (yQ s (i+1))) U U (congrArg (λz=>some (Value.int .i64 z)) (hs3.trans hpn.symm)))<|Q.as U<|Q.nt<|Q.rg<|Q.mv U<|S.qu (Z.add (r:=((fG (i+1)+8:Nat):Int)) U U (by rw[IntWalk.i64_in _ (by omega)];omega))<|?_
    refine Q.as U<|Q.nt<|Q.rg<|Q.mv U<|Q.bi U U U<|Q.nt<|S.cT U (decide_eq_true (by omega))<|Q.rg<|Q.mv U<|S.qu (Z.sub (r:=((fG (i+1):Nat):Int)) U U (by rw[IntWalk.i64_in _ (by omega)];omega))<|?_
    refine Q.as U<|Q.nt<|S.rg<|Q.mv U<|Q.mv U<|Q.mv U<|S.qu (Z.shr (r:=yQ s (i+1)/2^fG (i+1)) U U (by omega) hsh)<|S.qu (Z.cv (r:=IntKind.u8.wrap (yQ s (i+1)/2^fG (i+1))) Tryz.underlying5 U U (by kernel_rfl))<|S.qu (Z.bl je U U (bz U))<|S.dd<|D.apl 0 (Ew s (i+1)).length je U U (by omega) U (.sl (kz U)) (by first|omega|(simp;omega)) hab2 hl2.symm λp36=>?_
    refine Q.as U<|US.nil<|UQ.aB<|?_
    refine S.back (i+1,p36) ⟨rfl,rfl,rfl,rfl,trivial⟩ (.refl _) ?_ (by omega)
    all_goals exact⟨hlt,hokn⟩
 ·have hie:i=s.size:=by omega
  have hoks:MB s=true:=Q9 λj hj=>hok j (by omega)
  have hdp:Ht s=if fG s.size=6\/yQ s s.size % 2^fG s.size≠0 then none else some (Ew s s.size):=by unfold Ht;rw[if_pos hoks]
  rw[<-hie] at hdp
  by_cases h6:fG i=6
  ·rw[if_pos (.inl h6)] at hdp
   rw[hdp]
   focus
    refine Q.rg<|S.dd<|D.nxo 1 U U (by omega)<|S.qu (Z.ex U U)<|Q.nt<|S.sq<|S.cF U U<|UW.exit<|UQ.pass<|UQ.pass<|UQ.here<|UQ.then<|S.sq<|Q.rg<|Q.mv U<|Q.bi U U U<|Q.mv U<|?_
    refine S.tD 39 (λhc39=>?_) (λhc39=>?_)
    rotate_left
    omega
    refine Q.of<|Q.of<|Q.of<|Q.of<|Q.of<|Q.of<|Q.pk U U<|Q.nt<|S.cT U U<|Q.rg<|Q.as U<|Q.as U<|Q.nt<|UW.ret<|UQ.ax<|S.bH (λhd=>gF U (bJ U) (bJ U))<|?_
    rfl
  ·have hand:=andB (yQ s i) ((2^fG i-1:Nat):Int) (fG i) U (Nat.le_trans (Nat.pow_le_pow_right (by decide) hbl) (by decide)) hpb.1 (by omega)
   have hsl:=shlB (fG i) hbl
   have hp1:1<=2^fG i:=Nat.one_le_two_pow
   have hp2:2^fG i<=64:=Nat.le_trans (Nat.pow_le_pow_right (by decide) hbl) (by decide)
   have hmod:yQ s i % 2^fG i=(((yQ s i).toNat % 2^fG i:Nat):Int):=by
    rw[Int.natCast_emod,Int.toNat_of_nonneg hpb.1];simp
   have hb6:fG i<6:=by omega
   generalize hq:(((yQ s i).toNat % 2^fG i:Nat):Int)=q at*
   by_cases hz:q=0
   ·rw[if_neg (by rw[not_or,hmod,Decidable.not_not];exact⟨h6,hz⟩)] at hdp
    rw[hdp]
    refine Q.rg<|S.dd<|D.nxo 1 U U (by omega)<|S.qu (Z.ex U U)<|Q.nt<|S.sq<|S.cF U U<|UW.exit<|UQ.pass<|UQ.pass<|UQ.here<|UQ.then<|S.sq<|Q.rg<|Q.mv U<|Q.bi U U U<|Q.mv U<|?_
    refine S.tD 39 (λhc39=>?_) (λhc39=>?_)
    omega
    refine Q.on (Z.mv U)<|Q.on (Z.mv U)<|Q.on (Z.shl (r:=((2^fG i:Nat):Int)) U U (by omega) hsl)<|Q.on (Z.sub (r:=((2^fG i-1:Nat):Int)) U U (by rw[IntWalk.i64_in _ (by omega)];omega))<|?_
    refine Q.on (Z.bi (vr:=.int .i64 q) U U (congrArg (λz=>some (Value.int .i64 z)) hand))<|Q.on (Z.bi U U U)<|Q.pk U U<|Q.nt<|S.cF U (mJ (by omega))<|UW.skip<|UQ.then<|Q.rg<|Q.mv U<|US.fV 47 0 (rs:=bC (Ew s i)) U U (by omega) (by rw[List.drop_zero];exact List.take_of_length_le (by omega))<|?_
    refine Q.as U<|Q.as U<|Q.nt<|UW.ret<|S.bH (λhd=>gF U (bJ U) (bJ U))<|?_
    rfl
   ·rw[if_pos (.inr (by rw[hmod];exact hz))] at hdp
    rw[hdp]
    refine Q.rg<|S.dd<|D.nxo 1 U U (by omega)<|S.qu (Z.ex U U)<|Q.nt<|S.sq<|S.cF U U<|UW.exit<|UQ.pass<|UQ.pass<|UQ.here<|UQ.then<|S.sq<|Q.rg<|Q.mv U<|Q.bi U U U<|Q.mv U<|?_
    refine S.tD 39 (λhc39=>?_) (λhc39=>?_)
    omega
    refine Q.on (Z.mv U)<|Q.on (Z.mv U)<|Q.on (Z.shl (r:=((2^fG i:Nat):Int)) U U (by omega) hsl)<|Q.on (Z.sub (r:=((2^fG i-1:Nat):Int)) U U (by rw[IntWalk.i64_in _ (by omega)];omega))<|?_
    refine Q.on (Z.bi (vr:=.int .i64 q) U U (congrArg (λz=>some (Value.int .i64 z)) hand))<|Q.on (Z.bi U U U)<|Q.pk U U<|Q.nt<|S.cT U (rP (by omega))<|Q.rg<|Q.as U<|Q.as U<|Q.nt<|UW.ret<|UQ.ax<|S.bH (λhd=>gF U (bJ U) (bJ U))<|?_
    rfl
theorem HY(s:ByteArray)(hs:s.size<=100000)(ha:jc s=true)(H:Hp):au Tryz.prog 96 [.v (.string s)] H (bB H (.v (.bool (jB s)))):=by
 have hcp:∀H,au Tryz.prog 135 [.v (.string s),.v (.string ⟨#[36]⟩)] H (bB H (.kX [.v (.string (if BC s 36=true then s.extract 1 s.size else s)),.v (.bool (BC s 36))])):=λH=>xG s 36 (by decide) H
 have hn:jB s=(BC s 36&&(match Ht (s.extract 1 s.size) with|some l=>decide (l.length=32)|none=>false)):=rfl
 rw[hn]
 cases hp:BC s 36 with
 |true=>
  rw[hp,if_pos U] at hcp
  have hxs:(s.extract 1 s.size).size=s.size-1:=by simp
  have hxa:jc (s.extract 1 s.size)=true:=(pY _).2 λj hj=>by rw[CY s j (by omega)];exact(pY s).1 ha _ (by omega)
  have hb:=xH (s.extract 1 s.size) (by omega) hxa
  generalize s.extract 1 s.size=r at*
  generalize Ht r=o at*
  cases o with
  |none=>
   refine aF (n:=26) (H0:=H) (I:=[]) Tryz.func96 (by kernel_rfl) U (by rw[Tryz.ntmps96];rfl) .nil<|?_
   refine Q.rg<|Q.as U<|Q.nt<|Q.rg<|Q.mv U<|S.qu (Z.call U U (λH=>hcp H))<|Q.mv U<|S.qu (Z.ex U U)<|S.qu (Z.ex U U)<|Q.as U<|Q.as U<|Q.nt<|Q.rg<|Q.mv U<|S.qu (Z.call U U (λH=>hb H))<|Q.mv U<|S.qu (Z.ex U U)<|S.qu (Z.ex U U)<|Q.as U<|Q.as U<|Q.nt<|Q.rg<|Q.mv U<|Q.mv U<|Q.on (Z.mv U)<|Q.pk U U<|Q.mv U<|Q.of<|Q.of<|Q.of<|Q.pk U U<|Q.as U<|Q.nt<|UW.ret<|S.bH (λ_=>ak U U)<|?_
   rfl
  |some l=>
   have hel:=dD l
   have hq:(((bC l).length:Int)==32)=decide (l.length=32):=by rw[hel,Bool.eq_iff_iff];simp;omega
   refine aF (n:=26) (H0:=H) (I:=[]) Tryz.func96 (by kernel_rfl) U (by rw[Tryz.ntmps96];rfl) .nil<|?_
   refine Q.rg<|Q.as U<|Q.nt<|Q.rg<|Q.mv U<|S.qu (Z.call U U (λH=>hcp H))<|Q.mv U<|S.qu (Z.ex U U)<|S.qu (Z.ex U U)<|Q.as U<|Q.as U<|Q.nt<|Q.rg<|Q.mv U<|S.qu (Z.call U U (λH=>hb H))<|Q.mv U<|S.qu (Z.ex U U)<|S.qu (Z.ex U U)<|Q.as U<|Q.as U<|Q.nt<|Q.rg<|Q.mv U<|Q.mv U<|Q.on (Z.mv U)<|Q.pk U U<|Q.mv U<|Q.on (Z.mv U)<|Q.on (Z.fM cK U)<|Q.on (Z.bi U U U)<|Q.pk U U<|Q.as U<|Q.nt<|UW.ret<|S.bH (λ_=>ak U U)<|?_
   focus (exact congrArg (λb=>AV.v (.bool b)) hq;done)
 |false=>
  rw[hp,if_neg (by decide)] at hcp
  have hb:=xH s hs ha
  generalize Ht s=o at*
  cases o with
  |none=>
   refine aF (n:=26) (H0:=H) (I:=[]) Tryz.func96 (by kernel_rfl) U (by rw[Tryz.ntmps96];rfl) .nil<|?_
   refine Q.rg<|Q.as U<|Q.nt<|Q.rg<|Q.mv U<|S.qu (Z.call U U (λH=>hcp H))<|Q.mv U<|S.qu (Z.ex U U)<|S.qu (Z.ex U U)<|Q.as U<|Q.as U<|Q.nt<|Q.rg<|Q.mv U<|S.qu (Z.call U U (λH=>hb H))<|Q.mv U<|S.qu (Z.ex U U)<|S.qu (Z.ex U U)<|Q.as U<|Q.as U<|Q.nt<|Q.rg<|Q.mv U<|Q.mv U<|Q.of<|Q.pk U U<|Q.mv U<|Q.of<|Q.of<|Q.of<|Q.pk U U<|Q.as U<|Q.nt<|UW.ret<|S.bH (λ_=>ak U U)<|?_
   rfl
  |some l=>
   refine aF (n:=26) (H0:=H) (I:=[]) Tryz.func96 (by kernel_rfl) U (by rw[Tryz.ntmps96];rfl) .nil<|?_
   refine Q.rg<|Q.as U<|Q.nt<|Q.rg<|Q.mv U<|S.qu (Z.call U U (λH=>hcp H))<|Q.mv U<|S.qu (Z.ex U U)<|S.qu (Z.ex U U)<|Q.as U<|Q.as U<|Q.nt<|Q.rg<|Q.mv U<|S.qu (Z.call U U (λH=>hb H))<|Q.mv U<|S.qu (Z.ex U U)<|S.qu (Z.ex U U)<|Q.as U<|Q.as U<|Q.nt<|Q.rg<|Q.mv U<|Q.mv U<|Q.of<|Q.pk U U<|Q.mv U<|Q.of<|Q.of<|Q.of<|Q.pk U U<|Q.as U<|Q.nt<|UW.ret<|S.bH (λ_=>ak U U)<|?_
   rfl
end Go.Proofs.YtonpfomjoiaacaaGreatDoor
end
