/- A part of the proof. -/
import Derived.Test.YtonpfomjoiaacaaGreatDoorMw04
import Derived.Orders
set_option maxRecDepth 100000
set_option maxHeartbeats 4000000
set_option linter.unusedSectionVars false
set_option linter.unusedVariables false
set_option linter.unusedSimpArgs false
section
namespace Go.iG
open Go Go.RowKit
section
variable [Rd]
def qi(b:Nat):List (Option (Nat×AV))->Nat->List (Nat×AV)
 |[],_=>[]
 |none::r,k=>qi b r (k+1)
 |some p::r,k=>if b.testBit k then p::qi b r (k+1) else qi b r (k+1)
def loose(B:List Nat)(i:Nat):List (Option Nat)->Nat->List Nat
 |[],_=>[]
 |none::r,k=>loose B i r (k+1)
 |some d::r,k=>if k=i\/(B.getD i 0).testBit k=true\/(B.getD k 0).testBit i=true then loose B i r (k+1) else d::loose B i r (k+1)
def IE(ag:List Nat):List (Nat×AV)->List (Nat×AV)
 |[]=>[]
 |p::r=>if ag.contains p.1 then IE ag r else p::IE ag r
def oh(B:List Nat)(ds:List (Option Nat))(pre:List (Option (Nat×AV)))(cr l:List (Nat×AV))(i:Nat):List (Nat×AV):=cr++(qi (B.getD i 0) pre 0++IE (loose B i ds 0) l)
def mG(f:Nat->Bool)(T:Sl):List (Option (Nat×AV))->Nat->Nat->AV
 |[],_,t=>T t
 |none::r,k,t=>mG f T r (k+1) t
 |some p::r,k,t=>if t=p.1/\f k=true then p.2 else mG f T r (k+1) t
def rH(cr:List (Nat×AV))(T:Sl):Sl:=λt=>match look cr t with|some u=>u|none=>T t
def dstsOf(ol:List Oper):List (Option Nat):=ol.map (·.dst)
def mH(B:List Nat):List Oper->Nat->Bool
 |[],_=>true
 |o::r,i=>(o.after.toList.all λe=>!Region.binds .any e||decide (e.on<i))&&((List.range i).all λj=>!(B.getD i 0).testBit j||o.after.toList.any λe=>Region.binds .any e&&(e.on==j||(B.getD e.on 0).testBit j))&&((B.getD i 0)<2^i)&&mH B r (i+1)
def keysOf(pre:List (Option (Nat×AV))):List Nat:=pre.filterMap λo=>o.map (·.1)
def uu(B:List Nat)(pre:List (Option Nat))(cs k1:List Nat)(ds:List (Option Nat)):Bool:=
 (pre.length==ds.length)&&
 ((List.range pre.length).all λi=>match pre.getD i none with
   |some d=>!cs.contains i&&ds.getD i none==some d&&(cs.all λc=>!(B.getD i 0).testBit c)
   |none=>cs.contains i)&&
 ((List.range cs.length).all λa=>(cs.getD a 0<pre.length)&&((List.range a).all λb=>(B.getD (cs.getD a 0) 0).testBit (cs.getD b 0))&&(k1.all λi=>(B.getD (cs.getD a 0) 0).testBit i))&&
 decide (ds.filterMap id).Nodup
section
variable {P:Program} {n:Nat} {Q:sN->Sl->Hp->Prop} {H0:Hp} {l cr:List (Nat×AV)} {pre:List (Option (Nat×AV))} {I keep:List (Nat×Ob)} {ol:List Oper} {B cs k1:List Nat} {E:UL}
theorem rJ:∀{ol:List Oper} {k:Nat},mH B ol k=true->∀{i:Nat} {o:Oper},ol[i]? =some o->
 (∀e∈o.after,Region.binds .any e=true->e.on<k+i)/\(∀j,(B.getD (k+i) 0).testBit j=true->j<k+i/\∃e∈o.after,Region.binds .any e=true/\(e.on=j\/(B.getD e.on 0).testBit j=true))
 |[],k,_,i,o,h=>by simp at h
 |p::r,k,h,i,o,hi=>by
  unfold mH at h
  simp only[Bool.and_eq_true,decide_eq_true_eq] at h
  obtain⟨⟨⟨h1,h2⟩,h3⟩,h4⟩:=h
  cases i with
  |zero=>
   simp at hi
   subst hi
   refine⟨λe he hb=>?_,λj hj=>?_⟩
   ·have:=List.all_eq_true.1 h1 e (by simpa using he)
    simpa[hb] using this
   ·have hlt:j<k:=by
     by_cases hjk:j<k
     ·exact hjk
     ·have h5:B.getD k 0<2^j:=Nat.lt_of_lt_of_le h3 (Nat.pow_le_pow_right (by decide) (by omega))
      have h6:(B.getD k 0).testBit j=true:=hj
      rw[Nat.testBit_lt_two_pow h5] at h6
      cases h6
    refine⟨hlt,?_⟩
    have h5:=List.all_eq_true.1 h2 j (by simpa using hlt)
    simp only[Nat.add_zero] at hj
    rw[hj] at h5
    simp only[Bool.not_true,Bool.false_or,List.any_eq_true,Bool.and_eq_true,Bool.or_eq_true,beq_iff_eq] at h5
    obtain⟨e,he,hb,hc⟩:=h5
    exact⟨e,by simpa using he,hb,hc⟩
  |succ i=>
   have:=rJ h4 (i:=i) (by simpa using hi)
   have e1:k+1+i=k+(i+1):=by omega
   rw[e1] at this
   exact this
def Down(B:List Nat)(f:Nat->Bool):Prop:=∀i j,f i=true->(B.getD i 0).testBit j=true->f j=true
theorem BX{ops:Array Oper}{listed:Array Bool}{i:Nat}(h:i∈Region.ready .any ops listed):i<ops.size/\listed.getD i true=false/\∃o,ops[i]? =some o/\∀e∈o.after,Region.binds .any e=true->listed.getD e.on false=true:=by
 unfold Region.ready at h
 simp only[List.mem_filter,List.mem_range,Bool.and_eq_true,Bool.not_eq_true'] at h
 obtain⟨h1,h2,h3⟩:=h
 refine⟨h1,h2,?_⟩
 cases ho:ops[i]? with
 |none=>rw[ho] at h3;simp at h3
 |some o=>
  rw[ho] at h3
  refine⟨o,rfl,λe he hb=>?_⟩
  simp only[Option.map_some,Option.getD_some,Array.all_eq_true_iff_forall_mem] at h3
  have:=h3 e he
  simpa[hb] using this
theorem UU{ops:Array Oper}{listed:Array Bool}{i:Nat}{o:Oper}(h1:i<ops.size)(h2:listed.getD i true=false)(ho:ops[i]? =some o)(h:∀e∈o.after,Region.binds .any e=true->listed.getD e.on false=true):i∈Region.ready .any ops listed:=by
 unfold Region.ready
 simp only[List.mem_filter,List.mem_range,Bool.and_eq_true,Bool.not_eq_true']
 refine⟨h1,h2,?_⟩
 rw[ho]
 simp only[Option.map_some,Option.getD_some,Array.all_eq_true_iff_forall_mem]
 intro e he
 cases hb:Region.binds .any e
 ·rfl
 ·simp only[Bool.not_true,Bool.false_or];exact h e he hb
def xP(listed:Array Bool):Nat->Bool:=λi=>listed.getD i false
theorem Xx{listed:Array Bool}{i:Nat}(hi:i<listed.size)(j:Nat):xP (listed.setIfInBounds i true) j=if j=i then true else xP listed j:=by
 unfold xP
 rw[Array.getD_eq_getD_getElem?,Array.getD_eq_getD_getElem?,Array.getElem?_setIfInBounds]
 by_cases h:i=j
 ·subst h;simp[hi]
 ·rw[if_neg h,if_neg (Ne.symm h)]
theorem xQ{listed:Array Bool}{i:Nat}(hi:i<listed.size):listed.getD i true=xP listed i:=by
 unfold xP;simp[Array.getD,hi]
theorem O8{F:Fence}{m:Nat}{P:Program}{ops:Array Oper}{Qc:Exit->Act->World->Prop}{i:Nat}{o:Oper}{K:Act->World->Prop}{a:Act}{w:World}(ho:ops[i]? =some o):wpOpIn F m P ops Qc i K a w=(if Region.wanted o (yielded ops a.tmps) then o.wpIn F m P a w K Qc else(∀f,o.about P w a.eval=some f->F.fn f)/\K (a.put o.dst undef) w):=by
 unfold wpOpIn;rw[ho]
theorem uw{ag:List Nat}:∀{r:List (Nat×AV)} {t:Nat} {u:AV},look (IE ag r) t=some u->look r t=some u/\ag.contains t=false
 |[],t,u,h=>by simp[IE,look] at h
 |p::r,t,u,h=>by
  unfold IE at h
  split at h
  ·rename_i hc
   obtain⟨h1,h2⟩:=uw h
   refine⟨?_,h2⟩
   unfold look
   rw[if_neg]
   ·exact h1
   ·intro ht;subst ht;rw[hc] at h2;cases h2
  ·rename_i hc
   unfold look at h⊢
   split at h
   ·rename_i ht
    rw[if_pos ht]
    exact⟨h,by rw[ht];simpa using hc⟩
   ·rename_i ht
    rw[if_neg ht]
    exact uw h
theorem om{a b:List (Nat×AV)}{t:Nat}:look (a++b) t=match look a t with|some u=>some u|none=>look b t:=by
 induction a with
 |nil=>simp[look]
 |cons p r ih=>
  obtain⟨d,u⟩:=p
  rw[List.cons_append]
  show(if t=d then some u else look (r++b) t)=(match (if t=d then some u else look r t) with|some u=>some u|none=>look b t)
  by_cases h:t=d
  ·rw[if_pos h,if_pos h]
  ·rw[if_neg h,if_neg h];exact ih
theorem MP:∀{r:List (Nat×AV)} {t:Nat} {u:AV},look r t=some u->(t,u)∈r
 |[],t,u,h=>by cases h
 |(d,v)::r,t,u,h=>by
  unfold look at h
  split at h
  ·rename_i ht;cases h;subst ht;simp
  ·simp[MP h]
theorem EO:∀{r:List (Nat×AV)} {t:Nat} {u:AV},(r.map (·.1)).Nodup->(t,u)∈r->look r t=some u
 |[],t,u,_,h=>by simp at h
 |(d,v)::r,t,u,hn,h=>by
  simp only[List.map_cons,List.nodup_cons] at hn
  unfold look
  rcases List.mem_cons.1 h with h|h
  ·cases h;rw[if_pos U]
  ·have:t≠d:=λe=>hn.1 (by rw[<-e];exact List.mem_map_of_mem (f:=(·.1)) h)
   rw[if_neg this]
   exact EO hn.2 h
theorem filter_one{f:Nat->Bool}{i m:Nat}(h:f i=false)(hi:i<m):((List.range m).filter λk=>(k==i)||f k).length=((List.range m).filter f).length+1:=by
 induction m with
 |zero=>omega
 |succ m ih=>
  rw[List.range_succ,List.filter_append,List.filter_append,List.length_append,List.length_append]
  by_cases him:i=m
  ·subst him
   have e1:(List.range i).filter (λk=>(k==i)||f k)=(List.range i).filter f:=by
    apply List.filter_congr
    intro k hk
    have:k≠i:=by have:=List.mem_range.1 hk;omega
    simp[this]
   rw[e1]
   simp[h]
  ·have:=ih (by omega)
   have hmi:(m==i)=false:=by simp;omega
   rw[this]
   simp only[List.filter_cons,hmi,Bool.false_or,List.filter_nil]
   omega
theorem wE{f:Nat->Bool}{T:Sl}:∀{r:List (Option (Nat×AV))} {k j d:Nat} {u:AV},(keysOf r).Nodup->r[j]? =some (some (d,u))->f (k+j)=true->mG f T r k d=u
 |[],k,j,d,u,_,h,_=>by simp at h
 |none::r,k,0,d,u,_,h,_=>by simp at h
 |none::r,k,j+1,d,u,hn,h,hf=>by
  have:=wE (f:=f) (T:=T) (r:=r) (k:=k+1) (by simpa[keysOf] using hn) (by simpa using h) (by rw[<-hf];congr 1;omega)
  exact this
 |some p::r,k,0,d,u,hn,h,hf=>by
  simp at h;subst h
  have hf':f k=true:=hf
  simp[mG,hf']
 |some p::r,k,j+1,d,u,hn,h,hf=>by
  have h':r[j]? =some (some (d,u)):=by simpa using h
  have hn':(p.1::keysOf r).Nodup:=by simpa[keysOf] using hn
  rw[List.nodup_cons] at hn'
  have hne:d≠p.1:=λe=>hn'.1 (by
   rw[<-e]
   exact List.mem_filterMap.2 ⟨some (d,u),List.mem_of_getElem? h',rfl⟩)
  simp only[mG]
  rw[if_neg (λh=>hne h.1)]
  exact wE (f:=f) (T:=T) (k:=k+1) hn'.2 h' (by rw[<-hf];congr 1;omega)
theorem sW{f:Nat->Bool}{T:Sl}:∀{r:List (Option (Nat×AV))} {k t:Nat},(∀j d u,r[j]? =some (some (d,u))->d=t->f (k+j)=false)->mG f T r k t=T t
 |[],k,t,_=>rfl
 |none::r,k,t,h=>sW (r:=r) (k:=k+1) (λj d u h1 h2=>by have:=h (j+1) d u (by simpa using h1) h2;rw[<-this];congr 1;omega)
 |some p::r,k,t,h=>by
  simp only[mG]
  rw[if_neg]
  ·exact sW (λj d u h1 h2=>by have:=h (j+1) d u (by simpa using h1) h2;rw[<-this];congr 1;omega)
  ·rintro⟨h1,h2⟩
   have:=h 0 p.1 p.2 (by simp) h1.symm
   simp only[Nat.add_zero] at this
   rw[this] at h2;cases h2
theorem qj{b:Nat}:∀{r:List (Option (Nat×AV))} {k t:Nat} {u:AV},look (qi b r k) t=some u->∃j,r[j]? =some (some (t,u))/\b.testBit (k+j)=true
 |[],k,t,u,h=>by simp[qi,look] at h
 |none::r,k,t,u,h=>by
  obtain⟨j,h1,h2⟩:=qj (r:=r) (k:=k+1) h
  exact⟨j+1,by simpa using h1,by rw[<-h2];congr 1;omega⟩
 |some p::r,k,t,u,h=>by
  unfold qi at h
  split at h
  ·rename_i hb
   obtain⟨pd,pu⟩:=p
   have h':(if t=pd then some pu else look (qi b r (k+1)) t)=some u:=h
   split at h'
   ·rename_i ht
    cases h'
    exact⟨0,by simp[ht],hb⟩
   ·obtain⟨j,h1,h2⟩:=qj h'
    exact⟨j+1,by simpa using h1,by rw[<-h2];congr 1;omega⟩
  ·obtain⟨j,h1,h2⟩:=qj h
   exact⟨j+1,by simpa using h1,by rw[<-h2];congr 1;omega⟩
theorem yY{b:Nat}:∀{r:List (Option (Nat×AV))} {k j d:Nat} {u:AV},r[j]? =some (some (d,u))->b.testBit (k+j)=true->∃v,look (qi b r k) d=some v
 |[],k,j,d,u,h,_=>by simp at h
 |none::r,k,0,d,u,h,_=>by simp at h
 |none::r,k,j+1,d,u,h,hb=>yY (r:=r) (k:=k+1) (j:=j) (by simpa using h) (by rw[<-hb];congr 1;omega)
 |some p::r,k,0,d,u,h,hb=>by
  simp at h;subst h
  simp only[Nat.add_zero] at hb
  unfold qi
  rw[if_pos hb]
  exact⟨u,by simp[look]⟩
 |some p::r,k,j+1,d,u,h,hb=>by
  obtain⟨v,hv⟩:=yY (r:=r) (k:=k+1) (by simpa using h) (by rw[<-hb];congr 1;omega)
  obtain⟨pd,pu⟩:=p
  unfold qi
  split
  ·show∃v,(if d=pd then some pu else look (qi b r (k+1)) d)=some v
   split
   ·exact⟨_,rfl⟩
   ·exact⟨v,hv⟩
  ·exact⟨v,hv⟩
theorem xR{i:Nat}:∀{r:List (Option Nat)} {k j d:Nat},r[j]? =some (some d)->k+j≠i->(B.getD i 0).testBit (k+j)=false->(B.getD (k+j) 0).testBit i=false->(loose B i r k).contains d=true
 |[],k,j,d,h,_,_,_=>by simp at h
 |none::r,k,0,d,h,_,_,_=>by simp at h
 |none::r,k,j+1,d,h,h1,h2,h3=>by
  have e1:k+(j+1)=k+1+j:=by omega
  rw[e1] at h1 h2 h3
  exact xR (r:=r) (k:=k+1) (by simpa using h) h1 h2 h3
 |some p::r,k,0,d,h,h1,h2,h3=>by
  simp at h;subst h
  unfold loose
  rw[if_neg (by
   simp only[Nat.add_zero] at h1 h2 h3
   rintro(h4|h4|h4)
   ·exact h1 h4
   ·rw[h2] at h4;cases h4
   ·rw[h3] at h4;cases h4)]
  simp
 |some p::r,k,j+1,d,h,h1,h2,h3=>by
  have e1:k+(j+1)=k+1+j:=by omega
  rw[e1] at h1 h2 h3
  have:=xR (r:=r) (k:=k+1) (by simpa using h) h1 h2 h3
  unfold loose
  split
  ·exact this
  ·simp only[List.contains_cons,Bool.or_eq_true];exact .inr this
theorem rM{f f':Nat->Bool}{T T':Sl}:∀{r:List (Option (Nat×AV))} {k t:Nat},(∀j d u,r[j]? =some (some (d,u))->d=t->f (k+j)=f' (k+j))->T t=T' t->mG f T r k t=mG f' T' r k t
 |[],k,t,_,h=>h
 |none::r,k,t,h,hT=>rM (f:=f) (f':=f') (r:=r) (k:=k+1) (λj d u h1 h2=>by
   have e:k+1+j=k+(j+1):=by omega
   rw[e];exact h (j+1) d u (by simpa using h1) h2) hT
 |some p::r,k,t,h,hT=>by
  simp only[mG]
  have ih:=rM (f:=f) (f':=f') (T:=T) (T':=T') (r:=r) (k:=k+1) (t:=t) (λj d u h1 h2=>by
   have e:k+1+j=k+(j+1):=by omega
   rw[e];exact h (j+1) d u (by simpa using h1) h2) hT
  by_cases ht:t=p.1
  ·have h0:=h 0 p.1 p.2 (by simp) ht.symm
   simp only[Nat.add_zero] at h0
   rw[h0,ih]
  ·rw[if_neg (λh=>ht h.1),if_neg (λh=>ht h.1),ih]
def QS(P:Program)(n:Nat)(ops:Array Oper)(H0:Hp)(o:Oper)(l:List (Nat×AV))(I:List (Nat×Ob))(u:AV):Prop:=
 aP H0 I->Does P n ops o (gD l) (aD H0 I) (λu' H'=>u'=u/\H'=aD H0 I)
inductive Has:List (Nat×Ob)->List (Nat×Ob)->Prop
 |n {I:List (Nat×Ob)}:Has [] I
 |c {p:Nat×Ob} {r I:List (Nat×Ob)} (k:Nat) (h:I[k]? =some p) (t:Has r I):Has (p::r) I
theorem Has.get{p:Nat×Ob}:∀{r I:List (Nat×Ob)} {j:Nat},Has r I->r[j]? =some p->∃k:Nat,I[k]? =some p
 |[],_,j,_,h=>by simp at h
 |_::_,_,0,.c k h _,hj=>by simp at hj;subst hj;exact⟨k,h⟩
 |_::_,_,j+1,.c _ _ t,hj=>t.get (j:=j) (by simpa using hj)
def CH(P:Program)(n:Nat)(ol:List Oper)(Q:sN->Sl->Hp->Prop)(H0:Hp)(B:List Nat)(pre:List (Option (Nat×AV)))(l:List (Nat×AV))(keep:List (Nat×Ob)):List Nat->List (Nat×AV)->List (Nat×Ob)->Prop
 |[],cr,I=>Has keep I/\UQ Q H0 .normal (cr++((pre.filterMap id).reverse++l)) I
 |c::cs,cr,I=>Has keep I/\∃o,ol[c]? =some o/\(∀d,o.dst=some d->d<n)/\(aP H0 I->Does P n ol.toArray o (gD (oh B (dstsOf ol) pre cr l c)) (aD H0 I) (λu H'=>∃aM,H'=aD H0 aM/\aP H0 aM/\
   CH P n ol Q H0 B pre l keep cs (match o.dst with|some d=>(d,u)::cr|none=>cr) aM))
theorem CH.has{P:Program}{n:Nat}{ol:List Oper}{Q:sN->Sl->Hp->Prop}{H0:Hp}{B:List Nat}{pre:List (Option (Nat×AV))}{l cr:List (Nat×AV)}{keep I:List (Nat×Ob)}:∀{cs:List Nat},CH P n ol Q H0 B pre l keep cs cr I->Has keep I
 |[],h=>h.1
 |_::_,h=>h.1
structure jv(B:List Nat)(ol:List Oper)(pre:List (Option (Nat×AV)))(cs k1:List Nat):Prop where
 len:pre.length=ol.length
 quiet:∀(i d:Nat) (u:AV),pre[i]? =some (some (d,u))->i∉cs/\(∃o,ol[i]? =some o/\o.dst=some d)/\∀c∈cs,(B.getD i 0).testBit c=false
 rest:∀(i:Nat),pre[i]? =some none->i∈cs
 lt:∀c∈cs,c<ol.length
 nd:cs.Nodup
 first:∀c∈cs,∀i∈k1,(B.getD c 0).testBit i=true
 nodup:∀(i j d:Nat) (oi oj:Oper),ol[i]? =some oi->ol[j]? =some oj->oi.dst=some d->oj.dst=some d->i=j
theorem jv.inj(h:jv B ol pre cs k1)(a b c:Nat)(ha:cs[a]? =some c)(hb:cs[b]? =some c):a=b:=by
 obtain⟨h5,h6⟩:=List.getElem?_eq_some_iff.1 ha
 obtain⟨h7,h8⟩:=List.getElem?_eq_some_iff.1 hb
 exact(List.getElem_inj h.nd).1 (h6.trans h8.symm)
theorem jv.perm{cs':List Nat}(h:jv B ol pre cs k1)(hp:cs'.Perm cs):jv B ol pre cs' k1:=
 ⟨h.len,λi d u hi=>⟨λhm=>(h.quiet i d u hi).1 (hp.mem_iff.1 hm),(h.quiet i d u hi).2.1,λc hc=>(h.quiet i d u hi).2.2 c (hp.mem_iff.1 hc)⟩,λi hi=>hp.mem_iff.2 (h.rest i hi),λc hc=>h.lt c (hp.mem_iff.1 hc),hp.nodup_iff.2 h.nd,λc hc=>h.first c (hp.mem_iff.1 hc),h.nodup⟩
theorem lI{α:Type}:∀{l:List (Option α)},(l.filterMap id).Nodup->∀{i j:Nat} {d:α},l[i]? =some (some d)->l[j]? =some (some d)->i=j
 |[],_,i,j,d,h,_=>by simp at h
 |none::r,hn,0,_,d,h,_=>by simp at h
 |none::r,hn,_+1,0,d,_,h=>by simp at h
 |none::r,hn,i+1,j+1,d,h1,h2=>by
  have:=lI (l:=r) (by simpa using hn) (i:=i) (j:=j) (by simpa using h1) (by simpa using h2)
  omega
 |some a::r,hn,i,j,d,h1,h2=>by
  have hn':(a::r.filterMap id).Nodup:=by simpa using hn
  rw[List.nodup_cons] at hn'
  cases i with
  |zero=>
   cases j with
   |zero=>rfl
   |succ j=>
    simp at h1;subst h1
    exact absurd (List.mem_filterMap.2 ⟨some a,List.mem_of_getElem? (by simpa using h2:r[j]? =some (some a)),rfl⟩:a∈r.filterMap id) hn'.1
  |succ i=>
   cases j with
   |zero=>
    simp at h2;subst h2
    exact absurd (List.mem_filterMap.2 ⟨some a,List.mem_of_getElem? (by simpa using h1:r[i]? =some (some a)),rfl⟩:a∈r.filterMap id) hn'.1
   |succ j=>
    have:=lI hn'.2 (i:=i) (j:=j) (by simpa using h1) (by simpa using h2)
    omega
def Av(B:List Nat)(pre:List (Option Nat))(cs k1:List Nat)(ds:List (Option Nat)):Bool:=
 (pre.length==ds.length)&&
 ((List.range pre.length).all λi=>match pre.getD i none with
   |some d=>!cs.contains i&&ds.getD i none==some d&&(cs.all λc=>!(B.getD i 0).testBit c)
   |none=>cs.contains i)&&
 ((List.range cs.length).all λa=>(cs.getD a 0<pre.length)&&(k1.all λi=>(B.getD (cs.getD a 0) 0).testBit i))&&
 decide (ds.filterMap id).Nodup&&decide cs.Nodup
theorem jv.ofN(h:Av B (pre.map λo=>o.map (·.1)) cs k1 (dstsOf ol)=true):jv B ol pre cs k1:=by
 unfold Av at h
 simp only[Bool.and_eq_true,beq_iff_eq,decide_eq_true_eq,List.all_eq_true,List.mem_range,List.length_map] at h
 obtain⟨⟨⟨⟨h1,h2⟩,h3⟩,h4⟩,hnd⟩:=h
 have hlen:pre.length=ol.length:=by rw[h1];simp[dstsOf]
 have hg:∀i,(pre.map λo=>o.map (·.1)).getD i none=match pre[i]? with|some (some p)=>some p.1|_=>none:=by
  intro i
  rw[List.getD_eq_getElem?_getD,List.getElem?_map]
  cases pre[i]? with
  |none=>rfl
  |some o=>cases o<;>rfl
 refine⟨hlen,?_,?_,?_,hnd,?_,?_⟩
 ·intro i d u hi
  have hil:i<pre.length:=(List.getElem?_eq_some_iff.1 hi).1
  have h5:=h2 i hil
  rw[hg,hi] at h5
  simp only[Bool.and_eq_true,Bool.not_eq_true',beq_iff_eq,List.all_eq_true] at h5
  obtain⟨⟨h6,h7⟩,h8⟩:=h5
  refine⟨by simpa using h6,?_,λc hc=>by simpa using h8 c hc⟩
  obtain⟨o,ho⟩:∃o,ol[i]? =some o:=⟨_,List.getElem?_eq_getElem (by omega)⟩
  refine⟨o,ho,?_⟩
  rw[List.getD_eq_getElem?_getD,dstsOf,List.getElem?_map,ho] at h7
  simpa using h7
 ·intro i hi
  have hil:i<pre.length:=(List.getElem?_eq_some_iff.1 hi).1
  have h5:=h2 i hil
  rw[hg,hi] at h5
  simpa using h5
 ·intro c hc
  obtain⟨a,ha⟩:=List.getElem?_of_mem hc
  have h5:=h3 a (List.getElem?_eq_some_iff.1 ha).1
  have e:cs.getD a 0=c:=by rw[List.getD_eq_getElem?_getD,ha];rfl
  rw[e] at h5
  rw[<-hlen];exact h5.1
 ·intro c hc i hi
  obtain⟨a,ha⟩:=List.getElem?_of_mem hc
  have h5:=h3 a (List.getElem?_eq_some_iff.1 ha).1
  have e:cs.getD a 0=c:=by rw[List.getD_eq_getElem?_getD,ha];rfl
  rw[e] at h5
  exact h5.2 i hi
 ·intro i j d oi oj hi hj hdi hdj
  exact lI (l:=dstsOf ol) h4 (d:=d) (by rw[dstsOf,List.getElem?_map,hi];simp[hdi]) (by rw[dstsOf,List.getElem?_map,hj];simp[hdj])
def Aw(B:List Nat)(pre:List (Option Nat))(cs k1:List Nat)(ds:List (Option Nat)):Bool:=
 Av B pre cs k1 ds&&(List.range cs.length).all λa=>decide (a<2)||(B.getD (cs.getD a 0) 0).testBit (cs.getD (a-1) 0)
theorem jv.ofW(h:Aw B (pre.map λo=>o.map (·.1)) cs k1 (dstsOf ol)=true):jv B ol pre cs k1:=.ofN (Bool.and_eq_true_iff.1 h).1
theorem ordW{ds:List (Option Nat)}{p:List (Option Nat)}(h:Aw B p cs k1 ds=true):∀(a ca cb:Nat),1<=a->cs[a+1]? =some ca->cs[a]? =some cb->(B.getD ca 0).testBit cb=true:=by
 intro a ca cb ha1 ha hb
 have h6:=List.all_eq_true.1 (Bool.and_eq_true_iff.1 h).2 (a+1) (List.mem_range.2 (List.getElem?_eq_some_iff.1 ha).1)
 have ea:cs.getD (a+1) 0=ca:=by rw[List.getD_eq_getElem?_getD,ha];rfl
 have eb:cs.getD (a+1-1) 0=cb:=by rw[List.getD_eq_getElem?_getD,show a+1-1=a from by omega,hb];rfl
 rw[ea,eb,decide_eq_false (by omega),Bool.false_or] at h6
 exact h6
theorem jv.all{cs:List Nat}(h:uu B (pre.map λo=>o.map (·.1)) cs k1 (dstsOf ol)=true):∀(a b ca cb:Nat),cs[a]? =some ca->cs[b]? =some cb->b<a->(B.getD ca 0).testBit cb=true:=by
 unfold uu at h
 simp only[Bool.and_eq_true,beq_iff_eq,decide_eq_true_eq,List.all_eq_true,List.mem_range,List.length_map] at h
 obtain⟨⟨⟨h1,h2⟩,h3⟩,h4⟩:=h
 intro a b ca cb ha hb hab
 have h5:=h3 a (List.getElem?_eq_some_iff.1 ha).1
 have ea:cs.getD a 0=ca:=by rw[List.getD_eq_getElem?_getD,ha];rfl
 have eb:cs.getD b 0=cb:=by rw[List.getD_eq_getElem?_getD,hb];rfl
 rw[ea] at h5
 have:=h5.1.2 b hab
 rwa [eb] at this
theorem jv.of(he:mH B ol 0=true)(h:uu B (pre.map λo=>o.map (·.1)) cs k1 (dstsOf ol)=true):jv B ol pre cs k1:=by
 have hall:=jv.all h
 unfold uu at h
 simp only[Bool.and_eq_true,beq_iff_eq,decide_eq_true_eq,List.all_eq_true,List.mem_range,List.length_map] at h
 obtain⟨⟨⟨h1,h2⟩,h3⟩,h4⟩:=h
 have hlen:pre.length=ol.length:=by rw[h1];simp[dstsOf]
 have hg:∀i,(pre.map λo=>o.map (·.1)).getD i none=match pre[i]? with|some (some p)=>some p.1|_=>none:=by
  intro i
  rw[List.getD_eq_getElem?_getD,List.getElem?_map]
  cases pre[i]? with
  |none=>rfl
  |some o=>cases o<;>rfl
 refine⟨hlen,?_,?_,?_,?_,?_,?_⟩
 ·intro i d u hi
  have hil:i<pre.length:=(List.getElem?_eq_some_iff.1 hi).1
  have h5:=h2 i hil
  rw[hg,hi] at h5
  simp only[Bool.and_eq_true,Bool.not_eq_true',beq_iff_eq,List.all_eq_true] at h5
  obtain⟨⟨h6,h7⟩,h8⟩:=h5
  refine⟨by simpa using h6,?_,λc hc=>by simpa using h8 c hc⟩
  obtain⟨o,ho⟩:∃o,ol[i]? =some o:=⟨_,List.getElem?_eq_getElem (by omega)⟩
  refine⟨o,ho,?_⟩
  rw[List.getD_eq_getElem?_getD,dstsOf,List.getElem?_map,ho] at h7
  simpa using h7
 ·intro i hi
  have hil:i<pre.length:=(List.getElem?_eq_some_iff.1 hi).1
  have h5:=h2 i hil
  rw[hg,hi] at h5
  simpa using h5
 ·intro c hc
  obtain⟨a,ha⟩:=List.getElem?_of_mem hc
  have h5:=h3 a (List.getElem?_eq_some_iff.1 ha).1
  have e:cs.getD a 0=c:=by rw[List.getD_eq_getElem?_getD,ha];rfl
  rw[e] at h5
  rw[<-hlen];exact h5.1.1
 ·refine List.pairwise_iff_getElem.2 λa b h5 h6 h7 h8=>?_
  have ha:=List.getElem?_eq_getElem h5
  have hb:=List.getElem?_eq_getElem h6
  have e:cs.getD a 0=cs[a]:=by rw[List.getD_eq_getElem?_getD,ha];rfl
  have h9:=(h3 a h5).1.1
  rw[e] at h9
  obtain⟨o,ho⟩:∃o,ol[cs[a]]? =some o:=⟨_,List.getElem?_eq_getElem (by rw[<-hlen];exact h9)⟩
  have e4:=rJ he ho
  simp only[Nat.zero_add] at e4
  have:=hall b a _ _ hb ha h7
  rw[<-h8] at this
  have:=(e4.2 _ this).1
  omega
 ·intro c hc i hi
  obtain⟨a,ha⟩:=List.getElem?_of_mem hc
  have h5:=h3 a (List.getElem?_eq_some_iff.1 ha).1
  have e:cs.getD a 0=c:=by rw[List.getD_eq_getElem?_getD,ha];rfl
  rw[e] at h5
  exact h5.2 i hi
 ·intro i j d oi oj hi hj hdi hdj
  exact lI (l:=dstsOf ol) h4 (d:=d) (by rw[dstsOf,List.getElem?_map,hi];simp[hdi]) (by rw[dstsOf,List.getElem?_map,hj];simp[hdj])
structure Reg(P:Program)(n:Nat)(ol:List Oper)(Q:sN->Sl->Hp->Prop)(H0:Hp)(B:List Nat)(pre:List (Option (Nat×AV)))(l:List (Nat×AV))(keep:List (Nat×Ob))(R:List Nat->List (Nat×AV)->List (Nat×Ob)->Prop):Prop where
 has:∀{rem cr I},R rem cr I->Has keep I
 fin:∀{cr I},R [] cr I->UQ Q H0 .normal (cr++((pre.filterMap id).reverse++l)) I
 step:∀{rem cr I i},R rem cr I->i∈rem->(∀c∈rem,(B.getD i 0).testBit c=false)->∃o,ol[i]? =some o/\(∀d,o.dst=some d->d<n)/\(aP H0 I->Does P n ol.toArray o (gD (oh B (dstsOf ol) pre cr l i)) (aD H0 I) (λu H'=>∃aM,H'=aD H0 aM/\aP H0 aM/\
  R (rem.erase i) (match o.dst with|some d=>(d,u)::cr|none=>cr) aM))
structure At(P:Program)(n:Nat)(Q:sN->Sl->Hp->Prop)(H0:Hp)(E:UL)(B:List Nat)(ol:List Oper)(pre:List (Option (Nat×AV)))(cs k1:List Nat)(l:List (Nat×AV))(R:List Nat->List (Nat×AV)->List (Nat×Ob)->Prop)(objs0:List (Nat×Ob))(f:Nat->Bool)(p:Nat)(cr:List (Nat×AV))(I:List (Nat×Ob))(a:Act)(w:World):Prop where
 down:Down B f
 ple:p<=cs.length
 chain:∀(k c:Nat),cs[k]? =some c->f c=decide (k<p)
 UX:0<p->∀i∈k1,f i=true
 start:p=0->I=objs0/\cr=[]
 UY:aP H0 I
 crk:∀(t:Nat) (u:AV),look cr t=some u->∃k c o,k<p/\cs[k]? =some c/\ol[c]? =some o/\o.dst=some t
 crd:∀(k c:Nat) (o:Oper) (d:Nat),k<p->cs[k]? =some c->ol[c]? =some o->o.dst=some d->∃u,look cr d=some u
 ch:∃rem,rem.Perm (cs.drop p)/\R rem cr I
 inv:Inv E n (rH cr (mG f (gD l) pre 0)) (aD H0 I) a w
theorem yZ(hC:jv B ol pre cs k1):(keysOf pre).Nodup:=by
 unfold keysOf
 have:∀(r:List (Option (Nat×AV))) (k:Nat),(∀(j:Nat) (o:Option (Nat×AV)),r[j]? =some o->pre[k+j]? =some o)->(r.filterMap λo=>o.map (·.1)).Nodup:=by
  intro r
  induction r with
  |nil=>intro k _;simp
  |cons o r ih=>
   intro k hk
   have ih':=ih (k+1) (λj o' h=>by have:=hk (j+1) o' (by simpa using h);rw[<-this];congr 1;omega)
   cases o with
   |none=>simpa using ih'
   |some q=>
    rw[List.filterMap_cons_some (by rfl:(some q:Option (Nat×AV)).map (·.1)=some q.1),List.nodup_cons]
    refine⟨λhm=>?_,ih'⟩
    obtain⟨o',ho',he⟩:=List.mem_filterMap.1 hm
    obtain⟨j,hj⟩:=List.getElem?_of_mem ho'
    cases o' with
    |none=>cases he
    |some q'=>
     have he':q'.1=q.1:=by simpa using he
     have e1:=hk 0 (some q) (by simp)
     have e2:=hk (j+1) (some q') (by simpa using hj)
     obtain⟨_,⟨o1,g1,g2⟩,_⟩:=hC.quiet k q.1 q.2 (by simpa using e1)
     obtain⟨_,⟨o2,g3,g4⟩,_⟩:=hC.quiet (k+(j+1)) q'.1 q'.2 (by simpa using e2)
     have:=hC.nodup _ _ _ _ _ g1 g3 g2 (by rw[g4,he'])
     omega
 exact this pre 0 (λj o h=>by rw[Nat.zero_add];exact h)
theorem UZ{f:Nat->Bool}{i:Nat}(hC:jv B ol pre cs k1)(hd:Down B f)(hfi:f i=false)(Ay:∀j,(B.getD i 0).testBit j=true->f j=true)(t:Nat)(v:AV)(hl:look (oh B (dstsOf ol) pre cr l i) t=some v):rH cr (mG f (gD l) pre 0) t=v:=by
 unfold oh at hl
 rw[om] at hl
 unfold rH
 cases hcr:look cr t with
 |some v'=>rw[hcr] at hl;cases hl;rfl
 |none=>
  rw[hcr] at hl
  simp only at hl⊢
  have hnd:(keysOf pre).Nodup:=yZ hC
  rw[om] at hl
  cases hdl:look (qi (B.getD i 0) pre 0) t with
  |some v'=>
   rw[hdl] at hl
   cases hl
   obtain⟨j,q1,q2⟩:=qj hdl
   exact wE hnd q1 (by rw[Nat.zero_add] at q2⊢;exact Ay j q2)
  |none=>
   rw[hdl] at hl
   obtain⟨q1,q2⟩:=uw hl
   rw[sW]
   ·unfold gD;rw[q1];rfl
   ·intro j d' u' q3 q4
    subst q4
    rw[Nat.zero_add]
    by_cases hji:j=i
    ·rw[hji];exact hfi
    ·cases hb1:(B.getD i 0).testBit j with
     |true=>
      exfalso
      obtain⟨v',hv'⟩:∃v,look (qi (B.getD i 0) pre 0) d'=some v:=yY q3 (by rw[Nat.zero_add];exact hb1)
      rw[hdl] at hv';cases hv'
     |false=>
      cases hb2:(B.getD j 0).testBit i with
      |true=>
       cases hfj:f j with
       |false=>rfl
       |true=>
        have:=hd j i hfj hb2
        rw[hfi] at this;cases this
      |false=>
       exfalso
       obtain⟨_,⟨o,g1,g2⟩,_⟩:=hC.quiet j d' u' q3
       have h6:(dstsOf ol)[j]? =some (some d'):=by rw[dstsOf,List.getElem?_map,g1];simp[g2]
       have:=xR (B:=B) (i:=i) (k:=0) h6 (by rw[Nat.zero_add];exact hji) (by rw[Nat.zero_add];exact hb1) (by rw[Nat.zero_add];exact hb2)
       rw[this] at q2;cases q2
def M(P:Program)(n:Nat)(ol:List Oper)(H0:Hp)(I:List (Nat×Ob))(B:List Nat)(k1:List Nat)(pre:List (Option (Nat×AV)))(l:List (Nat×AV))(keep:List (Nat×Ob)):List (Option (Nat×AV))->Nat->Prop
 |[],_=>True
 |none::r,i=>M P n ol H0 I B k1 pre l keep r (i+1)
 |some p::r,i=>(p.1<n/\∃o,ol[i]? =some o/\(if i∈k1 then QS P n ol.toArray H0 o (oh B (dstsOf ol) pre [] l i) I p.2 else∀I,Has keep I->QS P n ol.toArray H0 o (oh B (dstsOf ol) pre [] l i) I p.2))/\M P n ol H0 I B k1 pre l keep r (i+1)
theorem EP:∀{r:List (Option (Nat×AV))} {k:Nat},M P n ol H0 I B k1 pre l keep r k->∀{j d:Nat} {u:AV},r[j]? =some (some (d,u))->d<n/\∃o,ol[k+j]? =some o/\(if k+j∈k1 then QS P n ol.toArray H0 o (oh B (dstsOf ol) pre [] l (k+j)) I u else∀I,Has keep I->QS P n ol.toArray H0 o (oh B (dstsOf ol) pre [] l (k+j)) I u)
 |[],k,_,j,d,u,hj=>by simp at hj
 |none::r,k,h,0,d,u,hj=>by simp at hj
 |none::r,k,h,j+1,d,u,hj=>by
  have:=EP (r:=r) (k:=k+1) h (j:=j) (by simpa using hj)
  rwa [show k+1+j=k+(j+1) by omega] at this
 |some p::r,k,h,0,d,u,hj=>by simp at hj;subst hj;exact h.1
 |some p::r,k,h,j+1,d,u,hj=>by
  have:=EP (r:=r) (k:=k+1) h.2 (j:=j) (by simpa using hj)
  rwa [show k+1+j=k+(j+1) by omega] at this
theorem Xy{f:Nat->Bool}{p i d:Nat}{u:AV}(hC:jv B ol pre cs k1)(hd:Down B f)(hi:pre[i]? =some (some (d,u)))(hchain:∀(k c:Nat),cs[k]? =some c->f c=decide (k<p))
 (hcrk:∀(t:Nat) (u:AV),look cr t=some u->∃k c o,k<p/\cs[k]? =some c/\ol[c]? =some o/\o.dst=some t)
 (hfi:f i=false) (Ay:∀j,(B.getD i 0).testBit j=true->f j=true) (t:Nat) (v:AV) (hl:look (oh B (dstsOf ol) pre [] l i) t=some v):rH cr (mG f (gD l) pre 0) t=v:=by
 have h1:=UZ (cr:=[]) hC hd hfi Ay t v hl
 have h2:look cr t=none:=by
  cases hcr:look cr t with
  |none=>rfl
  |some v'=>
   exfalso
   obtain⟨k,c,o,hk,hc,ho,hdst⟩:=hcrk t v' hcr
   have hfc:f c=true:=by rw[hchain k c hc];simpa using hk
   unfold oh at hl
   rw[List.nil_append,om] at hl
   obtain⟨hni,_,hnb⟩:=hC.quiet i d u hi
   have hcm:=List.mem_of_getElem? hc
   cases hdl:look (qi (B.getD i 0) pre 0) t with
   |some v''=>
    obtain⟨j,q1,q2⟩:=qj hdl
    obtain⟨hnj,⟨oj,g1,g2⟩,_⟩:=hC.quiet j t v'' q1
    have:=hC.nodup _ _ _ _ _ g1 ho g2 hdst
    subst this
    exact hnj hcm
   |none=>
    rw[hdl] at hl
    obtain⟨q1,q2⟩:=uw hl
    have h6:(dstsOf ol)[c]? =some (some t):=by rw[dstsOf,List.getElem?_map,ho];simp[hdst]
    have hci:c≠i:=λe=>hni (e▸hcm)
    have hbc:(B.getD c 0).testBit i=false:=by
     cases h:(B.getD c 0).testBit i with
     |false=>rfl
     |true=>have:=hd c i hfc h;rw[hfi] at this;cases this
    have:=xR (B:=B) (i:=i) (k:=0) h6 (by rw[Nat.zero_add];exact hci) (by rw[Nat.zero_add];exact hnb c hcm) (by rw[Nat.zero_add];exact hbc)
    rw[this] at q2;cases q2
 unfold rH at h1⊢
 rw[h2]
 exact h1
theorem JP{T:Sl}{a:Act}{w:World}{ρ:ik}{H:Hp}{ls:List (Nat×AV)}(r3:∀t,eF (bF ρ H) ρ w (T t) (a.tmps.getD t undef))(h:∀(t:Nat) (v:AV),look ls t=some v->T t=v):∀t,eF (bF ρ H) ρ w (gD ls t) (a.tmps.getD t undef):=by
 intro t
 unfold gD
 cases hl:look ls t with
 |none=>exact .any _
 |some v=>have:=r3 t;rw[h t v hl] at this;exact this
theorem UW.drawR{P:Program}{O9:Nat}{R:List Nat->List (Nat×AV)->List (Nat×Ob)->Prop}(hm:P.follows .mixedOrders=true)(B:List Nat)(pre:List (Option (Nat×AV)))(cs0 k1:List Nat)(he:mH B ol 0=true)(hC0:jv B ol pre cs0 k1)(hR:Reg P n ol Q H0 B pre l keep R)
 (hq:M P n ol H0 I B k1 pre l keep pre 0) (hk:R cs0 [] I):UW P n Q H0 (.region O9 ol.toArray true) l I:=by
 intro hd0 E a0 w0 hi0
 refine wpIn_region_any hm ?_
 have key:∀(fuel:Nat) (listed:Array Bool) (p:Nat) (cs:List Nat) (hC:jv B ol pre cs k1) (cr:List (Nat×AV)) (aM:List (Nat×Ob)) (a:Act) (w:World),listed.size=ol.length->ol.length<=fuel+((List.range ol.length).filter (xP listed)).length->
  At P n Q H0 E B ol pre cs k1 l R I (xP listed) p cr aM a w->wpAnyIn (Mw Rd.r) 3 P .any ol.toArray (lift E n Q) fuel listed a w:=by
  intro fuel
  -- all is listed
  have final:∀(listed:Array Bool) (p:Nat) (cs:List Nat) (hC:jv B ol pre cs k1) (cr:List (Nat×AV)) (aM:List (Nat×Ob)) (a:Act) (w:World),(∀j,j<ol.length->xP listed j=true)->At P n Q H0 E B ol pre cs k1 l R I (xP listed) p cr aM a w->lift E n Q .normal a w:=by
   intro listed p cs hC cr aM a w hall h
   have hp:p=cs.length:=by
    by_cases hpl:p=cs.length
    ·exact hpl
    ·exfalso
     have hlt:p<cs.length:=by have:=h.ple;omega
     have e:=List.getElem?_eq_getElem hlt
     have h1:=h.chain p _ e
     rw[hall _ (hC.lt _ (List.mem_of_getElem? e))] at h1
     simp at h1
   obtain⟨rem,hrm,hc⟩:=h.ch
   rw[hp,List.drop_length] at hrm
   rw[hrm.eq_nil] at hc
   replace hc:=hR.fin hc
   obtain⟨ρ,r1,r2,r3⟩:=h.inv.rel
   refine⟨_,_,⟨h.inv.size,h.inv.defers,ρ,r1,r2,JP r3 ?_⟩,hc h.UY⟩
   intro t v hl
   rw[om] at hl
   unfold rH
   cases hcr:look cr t with
   |some v'=>rw[hcr] at hl;cases hl;rfl
   |none=>
    rw[hcr] at hl
    simp only at hl⊢
    rw[om] at hl
    have hnd:(keysOf pre).Nodup:=yZ hC
    cases hpl:look (pre.filterMap id).reverse t with
    |some v'=>
     rw[hpl] at hl
     cases hl
     have hm:=MP hpl
     rw[List.mem_reverse] at hm
     obtain⟨o,ho,he⟩:=List.mem_filterMap.1 hm
     obtain⟨j,hj⟩:=List.getElem?_of_mem ho
     simp only[id] at he
     subst he
     exact wE hnd hj (by rw[Nat.zero_add];exact hall j (by rw[<-hC.len];exact(List.getElem?_eq_some_iff.1 hj).1))
    |none=>
     rw[hpl] at hl
     rw[sW]
     ·simp only at hl;unfold gD;rw[hl];rfl
     ·intro j d u hj hdt
      exfalso
      subst hdt
      have hmem:(d,u)∈(pre.filterMap id).reverse:=by
       rw[List.mem_reverse]
       exact List.mem_filterMap.2 ⟨some (d,u),List.mem_of_getElem? hj,rfl⟩
      have hkn:(((pre.filterMap id).reverse).map (·.1)).Nodup:=by
       rw[List.map_reverse]
       refine(List.reverse_perm _).nodup_iff.2 ?_
       have:(pre.filterMap id).map (·.1)=keysOf pre:=by unfold keysOf;rw[List.map_filterMap];rfl
       rw[this];exact hnd
      rw[EO hkn hmem] at hpl
      cases hpl
  induction fuel with
  |zero=>
   intro listed p cs hC cr aM a w hs hf h
   have hfl:=List.length_filter_le (xP listed) (List.range ol.length)
   rw[List.length_range] at hfl
   have hall:∀j,j<ol.length->xP listed j=true:=by
    intro j hj
    have h1:((List.range ol.length).filter (xP listed)).length=(List.range ol.length).length:=by rw[List.length_range];omega
    exact List.length_filter_eq_length_iff.1 h1 j (by simpa using hj)
   refine⟨?_,final listed p cs hC cr aM a w hall h⟩
   cases hr:Region.ready .any ol.toArray listed with
   |nil=>rfl
   |cons j r=>
    have:=BX (by rw[hr];exact List.mem_cons_self:j∈Region.ready .any ol.toArray listed)
    have hj:j<ol.length:=by simpa using this.1
    rw[xQ (by omega),hall j hj] at this
    simp at this
  |succ fuel ih=>
   intro listed p cs hC cr aM a w hs hf h
   by_cases hall:∀j,j<ol.length->xP listed j=true
   ·refine⟨λ_=>final listed p cs hC cr aM a w hall h,λj hj=>?_⟩
    have:=BX hj
    have hjl:j<ol.length:=by simpa using this.1
    rw[xQ (by omega),hall j hjl] at this
    simp at this
   ·have hex:∃j,j<ol.length/\xP listed j=false:=by
     simp only[Classical.not_forall] at hall
     obtain⟨j,hj,h⟩:=hall
     exact⟨j,hj,by simpa using h⟩
    have hleast:∃j,j<ol.length/\xP listed j=false/\∀k,k<j->xP listed k=true:=by
     obtain⟨j,h1,h2⟩:=hex
     induction j using Nat.strongRecOn with
     |_ j ihj=>
      by_cases hk2:∀k,k<j->xP listed k=true
      ·exact⟨j,h1,h2,hk2⟩
      ·simp only[Classical.not_forall] at hk2
       obtain⟨k,hk3,h4⟩:=hk2
       exact ihj k hk3 (by omega) (by simpa using h4)
    obtain⟨j0,hj0,hj1,hj2⟩:=hleast
    have hin:j0∈Region.ready .any ol.toArray listed:=by
     obtain⟨o,ho⟩:∃o,ol[j0]? =some o:=⟨_,List.getElem?_eq_getElem hj0⟩
     refine UU (o:=o) (by simpa using hj0) ?_ (by simpa using ho) (λe he1 he2=>?_)
     ·rw[xQ (by omega)];exact hj1
     ·have h5:=rJ he ho
      simp only[Nat.zero_add] at h5
      exact hj2 _ (h5.1 e he1 he2)
    refine⟨λhnil=>(by rw[hnil] at hin;cases hin),λi hir=>?_⟩
    obtain⟨h1,h2,o,ho,h3⟩:=BX hir
    have hil:i<ol.length:=by simpa using h1
    rw[xQ (by omega)] at h2
    have ho':ol[i]? =some o:=by simpa using ho
    have Ay:∀j,(B.getD i 0).testBit j=true->xP listed j=true:=by
     intro j hj
     have h5:=rJ he ho'
     simp only[Nat.zero_add] at h5
     obtain⟨_,e,e1,e2,e3⟩:=h5.2 j hj
     have h6:xP listed e.on=true:=h3 e e1 e2
     rcases e3 with e3|e3
     ·rw[<-e3];exact h6
     ·exact h.down _ _ h6 e3
    rw[O8 ho]
    obtain⟨ρ,r1,r2,r3⟩:=h.inv.rel
    have hset:xP (listed.setIfInBounds i true)=λj=>if j=i then true else xP listed j:=by funext j;exact Xx (by omega) j
    have hcount:ol.length<=fuel+((List.range ol.length).filter (xP (listed.setIfInBounds i true))).length:=by
     have e1:xP (listed.setIfInBounds i true)=λk=>(k==i)||xP listed k:=by
      rw[hset]
      funext k
      by_cases hk:k=i
      ·simp[hk]
      ·simp[hk]
     rw[e1,filter_one h2 hil]
     omega
    have hdown:Down B (xP (listed.setIfInBounds i true)):=by
     rw[hset]
     intro i' j' p1 p2
     simp only at p1⊢
     split
     ·rfl
     ·split at p1
      ·rename_i e;subst e;exact Ay j' p2
      ·exact h.down i' j' p1 p2
    have hpi:∃x,pre[i]? =some x:=⟨_,List.getElem?_eq_getElem (by rw[hC.len];exact hil)⟩
    obtain⟨x,hx⟩:=hpi
    cases x with
    |some du=>
     obtain⟨d,u⟩:=du
     obtain⟨hni,⟨o2,g1,g2⟩,hnb⟩:=hC.quiet i d u hx
     rw[ho'] at g1
     cases g1
     obtain⟨g3,o3,g4,g5⟩:=EP hq hx
     rw[Nat.zero_add] at g4 g5
     rw[ho'] at g4
     cases g4
     have hqs:QS P n ol.toArray H0 o (oh B (dstsOf ol) pre [] l i) aM u:=by
      split at g5
      ·rename_i hi1
       have hp0:p=0:=by
        by_cases hp0:p=0
        ·exact hp0
        ·have:=h.UX (by omega) i hi1
         rw[h2] at this;cases this
       rw[(h.start hp0).1];exact g5
      ·exact g5 aM (by obtain⟨_,_,hr⟩:=h.ch;exact hR.has hr)
     have hmin:=JP r3 (Xy hC h.down hx h.chain h.crk h2 Ay)
     have hnext:∀x w' ρ',eu ρ' (aD H0 aM) w'->Ext ρ (aD H0 aM) w ρ' (aD H0 aM) w'->eF (bF ρ' (aD H0 aM)) ρ' w' u x->wpAnyIn (Mw Rd.r) 3 P .any ol.toArray (lift E n Q) fuel (listed.setIfInBounds i true) (a.put o.dst x) w':=by
      intro x w' ρ' q1 q2 q3
      refine ih _ p cs hC cr aM _ _ (by simpa using hs) hcount ⟨hdown,h.ple,λk c hkc=>?_,λhp j hj=>?_,h.start,h.UY,h.crk,h.crd,h.ch,⟨?_,?_,ρ',q1,r2.trans q2,λt=>?_⟩⟩
      ·rw[hset]
       have:c≠i:=λe=>hni (e▸List.mem_of_getElem? hkc)
       simp only[this,if_false]
       exact h.chain k c hkc
      ·rw[hset]
       simp only
       split
       ·rfl
       ·exact h.UX hp j hj
      ·simp only[Act.put];split<;>simp[h.inv.size]
      ·rw[put_defers];exact h.inv.defers.step r1 q2
      ·have h7:=xL (n:=n) h.inv.size (λt=>q2.rep (r3 t)) o.dst q3 t
       rw[g2] at h7⊢
       simp only[EB,g3,if_true,upd] at h7
       have hlk:rH cr (mG (xP (listed.setIfInBounds i true)) (gD l) pre 0) t=if t=d then u else rH cr (mG (xP listed) (gD l) pre 0) t:=by
        have hcrn:look cr d=none:=by
         cases hcr:look cr d with
         |none=>rfl
         |some v'=>
          obtain⟨k,c,oc,_,hc1,hc2,hc3⟩:=h.crk d v' hcr
          have:=hC.nodup _ _ _ _ _ ho' hc2 g2 hc3
          subst this
          exact absurd (List.mem_of_getElem? hc1) hni
        unfold rH
        by_cases ht:t=d
        ·subst ht
         rw[hcrn,if_pos U]
         exact wE (yZ hC) hx (by rw[Nat.zero_add,hset];simp)
        ·rw[if_neg ht]
         split
         ·rfl
         ·refine rM (λj d' u' e1 e2=>?_) U
          rw[Nat.zero_add,hset]
          simp only
          split
          ·rename_i hji
           subst hji
           rw[hx] at e1
           cases e1
           exact absurd e2.symm ht
          ·rfl
       rw[hlk]
       by_cases ht:t=d
       ·rw[if_pos ht] at h7⊢;exact h7
       ·rw[if_neg ht] at h7⊢;exact h7
     have hdo:=hqs h.UY a w ρ h.inv.size U r1 hmin (λa' w'=>a'.defers=a.defers/\wpAnyIn (Mw Rd.r) 3 P .any ol.toArray (lift E n Q) fuel (listed.setIfInBounds i true) a' w') (lift E n Q) (λx w' ρ' u' H' q1 q2 q3 ⟨q4,q5⟩=>by
      subst q4 q5
      exact⟨put_defers _ _ _,hnext x w' ρ' q1 q2 q3⟩)
     split
     ·rename_i hw
      rw[if_pos hw] at hdo
      exact O4 hdo (λc a w h=>h)
     ·rename_i hw
      rw[if_neg hw] at hdo
      exact⟨λ_ _=>trivial,hdo.2⟩
    |none=>
     have Xz:=hC.rest i hx
     obtain⟨k0,hkc0⟩:=List.getElem?_of_mem Xz
     have hk0p:p<=k0:=by
      have e1:=h.chain k0 i hkc0
      rw[h2] at e1
      simpa using e1.symm
     obtain⟨rem,hrm,hr⟩:=h.ch
     have U0:i∈cs.drop p:=by
      have:(cs.drop p)[k0-p]? =some i:=by rw[List.getElem?_drop,show p+(k0-p)=k0 from by omega];exact hkc0
      exact List.mem_of_getElem? this
     obtain⟨_,o2,g1,g2,g3⟩:i∈rem/\_:=⟨hrm.mem_iff.2 U0,hR.step hr (hrm.mem_iff.2 U0) (λc hc=>by
      cases hb:(B.getD i 0).testBit c with
      |false=>rfl
      |true=>
       have e4:=Ay _ hb
       obtain⟨k2,hk2⟩:=List.getElem?_of_mem (hrm.mem_iff.1 hc)
       rw[List.getElem?_drop] at hk2
       rw[h.chain _ _ hk2] at e4
       simp at e4
       omega)⟩
     rw[ho'] at g1
     cases g1
     -- this one comes next
     have hper:(cs.take p++i::(cs.drop p).erase i).Perm cs:=by
      have:=(List.perm_cons_erase U0).symm.append_left (cs.take p)
      rwa [List.take_append_drop] at this
     have hple:=h.ple
     have htl:(cs.take p).length=p:=by rw[List.length_take];omega
     have hlow:∀k' c,k'<p->((cs.take p++i::(cs.drop p).erase i)[k']? =some c↔cs[k']? =some c):=λk' c hk=>by
      rw[List.getElem?_append_left (by omega),List.getElem?_take_of_lt hk]
     have hkc:(cs.take p++i::(cs.drop p).erase i)[p]? =some i:=by rw[List.getElem?_append_right (by omega),htl,Nat.sub_self];rfl
     have hdr:(cs.take p++i::(cs.drop p).erase i).drop (p+1)=(cs.drop p).erase i:=by
      rw[List.drop_append,List.drop_eq_nil_of_le (by omega),htl,show p+1-p=1 from by omega];rfl
     have hC1:=hC.perm hper
     have h':At P n Q H0 E B ol pre (cs.take p++i::(cs.drop p).erase i) k1 l R I (xP listed) p cr aM a w:=by
      refine⟨h.down,by rw[hper.length_eq];exact h.ple,λk' c MQ=>?_,h.UX,h.start,h.UY,λt u hl=>?_,λk' c oc d hk' hc1=>h.crd k' c oc d hk' ((hlow k' c hk').1 hc1),⟨rem,hrm.trans ?_,hr⟩,h.inv⟩
      ·by_cases hk':k'<p
       ·exact h.chain k' c ((hlow k' c hk').1 MQ)
       ·rw[List.getElem?_append_right (by omega)] at MQ
        have hm:c∈i::(cs.drop p).erase i:=List.mem_of_getElem? MQ
        obtain⟨k2,hk2⟩:=List.getElem?_of_mem ((List.perm_cons_erase U0).mem_iff.2 hm)
        rw[List.getElem?_drop] at hk2
        rw[h.chain _ _ hk2,decide_eq_false (by omega),decide_eq_false hk']
      ·obtain⟨k',c,oc,e1,e2,e3,e4⟩:=h.crk t u hl
       exact⟨k',c,oc,e1,(hlow k' c e1).2 e2,e3,e4⟩
      ·have:(cs.take p++i::(cs.drop p).erase i).drop p=i::(cs.drop p).erase i:=by
        rw[List.drop_append,List.drop_eq_nil_of_le (by omega),htl,Nat.sub_self];rfl
       rw[this];exact List.perm_cons_erase U0
     have hrem:(rem.erase i).Perm ((cs.take p++i::(cs.drop p).erase i).drop (p+1)):=by rw[hdr];exact hrm.erase i
     clear h hC hple htl hlow hper hdr
     generalize cs.take p++i::(cs.drop p).erase i=cs' at*
     have h:=h'
     clear h'
     have hC:=hC1
     have Xz:=List.mem_of_getElem? hkc
     generalize hkp:p=k at*
     have hmin:=JP r3 (UZ hC h.down h2 Ay)
     have hnext:∀x w' ρ' u H',eu ρ' H' w'->Ext ρ (aD H0 aM) w ρ' H' w'->eF (bF ρ' H') ρ' w' u x->(∃MR,H'=aD H0 MR/\aP H0 MR/\R (rem.erase i) (match o.dst with|some d=>(d,u)::cr|none=>cr) MR)->wpAnyIn (Mw Rd.r) 3 P .any ol.toArray (lift E n Q) fuel (listed.setIfInBounds i true) (a.put o.dst x) w':=by
      rintro x w' ρ' u H' q1 q2 q3 ⟨MR,rfl,q5,q6⟩
      have hfresh:∀d,o.dst=some d->∀(j d':Nat) (u':AV),pre[j]? =some (some (d',u'))->d'≠d:=by
       intro d hd j d' u' hj e
       subst e
       obtain⟨hnj,⟨oj,e1,e2⟩,_⟩:=hC.quiet j d' u' hj
       have:=hC.nodup _ _ _ _ _ e1 ho' e2 hd
       subst this
       exact hnj Xz
      refine ih _ (k+1) cs' hC (match o.dst with|some d=>(d,u)::cr|none=>cr) MR _ _ (by simpa using hs) hcount ⟨hdown,?_,λk' c MQ=>?_,λ_ j hj=>?_,λhp=>by omega,q5,λt v hl=>?_,λk' c oc d' hk' hc1 hc2 hc3=>?_,⟨_,hrem,q6⟩,⟨?_,?_,ρ',q1,r2.trans q2,λt=>?_⟩⟩
      ·have:=(List.getElem?_eq_some_iff.1 hkc).1;omega
      ·rw[hset]
       simp only
       by_cases hci:c=i
       ·subst hci
        rw[if_pos U]
        have:k'=k:=hC.inj _ _ _ MQ hkc
        subst this;simp
       ·rw[if_neg hci,h.chain k' c MQ]
        have:k'≠k:=λe=>hci (by rw[e,hkc] at MQ;exact(Option.some.inj MQ).symm)
        have:(k'<k)=(k'<k+1):=by apply propext;omega
        simp[this]
      ·rw[hset]
       simp only
       split
       ·rfl
       ·exact Ay j (hC.first i Xz j hj)
      ·cases hod:o.dst with
       |none=>
        rw[hod] at hl
        obtain⟨k',c,oc,e1,e2,e3,e4⟩:=h.crk t v hl
        exact⟨k',c,oc,by omega,e2,e3,e4⟩
       |some d=>
        rw[hod] at hl
        have hl':(if t=d then some u else look cr t)=some v:=hl
        split at hl'
        ·rename_i ht;subst ht;exact⟨k,i,o,by omega,hkc,ho',hod⟩
        ·obtain⟨k',c,oc,e1,e2,e3,e4⟩:=h.crk t v hl'
         exact⟨k',c,oc,by omega,e2,e3,e4⟩
      ·by_cases hkk:k'=k
       ·subst hkk
        rw[hkc] at hc1
        cases hc1
        rw[ho'] at hc2
        cases hc2
        rw[hc3]
        exact⟨u,by simp[look]⟩
       ·obtain⟨v,hv⟩:=h.crd k' c oc d' (by omega) hc1 hc2 hc3
        cases hod:o.dst with
        |none=>exact⟨v,hv⟩
        |some d=>
         show∃u',(if d'=d then some u else look cr d')=some u'
         split
         ·exact⟨_,rfl⟩
         ·exact⟨v,hv⟩
      ·simp only[Act.put];split<;>simp[h.inv.size]
      ·rw[put_defers];exact h.inv.defers.step r1 q2
      ·have h7:=xL (n:=n) h.inv.size (λt=>q2.rep (r3 t)) o.dst q3 t
       have hold:mG (xP (listed.setIfInBounds i true)) (gD l) pre 0 t=mG (xP listed) (gD l) pre 0 t:=by
        refine rM (λj d' u' e1 e2=>?_) U
        rw[Nat.zero_add,hset]
        simp only
        split
        ·rename_i hji
         subst hji
         rw[hx] at e1
         cases e1
        ·rfl
       cases hod:o.dst with
       |none=>
        rw[hod] at h7
        simp only[EB] at h7
        unfold rH at h7⊢
        simp only[hod]
        rw[hold]
        exact h7
       |some d=>
        rw[hod] at h7
        simp only[EB,g2 d hod,if_true,upd] at h7
        unfold rH at h7⊢
        simp only[hod,look]
        by_cases ht:t=d
        ·rw[if_pos ht] at h7⊢;exact h7
        ·rw[if_neg ht] at h7⊢
         rw[hold];exact h7
     have hdo:=g3 h.UY a w ρ h.inv.size U r1 hmin (λa' w'=>a'.defers=a.defers/\wpAnyIn (Mw Rd.r) 3 P .any ol.toArray (lift E n Q) fuel (listed.setIfInBounds i true) a' w') (lift E n Q) (λx w' ρ' u' H' q1 q2 q3 q4=>⟨put_defers _ _ _,hnext x w' ρ' u' H' q1 q2 q3 q4⟩)
     split
     ·rename_i hw
      rw[if_pos hw] at hdo
      exact O4 hdo (λc a w h=>h)
     ·rename_i hw
      rw[if_neg hw] at hdo
      exact⟨λ_ _=>trivial,hdo.2⟩
 have hnone:∀i,xP (Array.replicate ol.toArray.size false) i=false:=by
  intro i
  simp[xP,Array.getD]
 suffices hi1:Inv E n (rH [] (mG (xP (Array.replicate ol.toArray.size false)) (gD l) pre 0)) (aD H0 I) a0 {w0 with drawn:=w0.drawn+1} by
  exact key _ _ 0 cs0 hC0 [] I _ _ (by simp) (by simp) ⟨λi j h=>absurd h (by rw[hnone];simp),Nat.zero_le _,λk c _=>(hnone c).trans (by simp),λh=>absurd h (by omega),λ_=>⟨rfl,rfl⟩,hd0,λt u h=>absurd h (by simp[look]),λk c o d h=>absurd h (by omega),⟨cs0,.refl _,hk⟩,hi1⟩
 obtain⟨ρ,r1,r2,r3⟩:=hi0.rel
 have hE:Ext ρ (aD H0 I) w0 ρ (aD H0 I) {w0 with drawn:=w0.drawn+1}:=⟨rfl,rfl,rfl,Nat.le_refl _,λ_ _ _=>rfl,λ_ h=> .inl h,λ_ _ h=>h⟩
 refine⟨hi0.size,hi0.defers,ρ,⟨λid ob ji=>?_,r1.apart,r1.room,r1.lt⟩,r2.trans hE,λt=>?_⟩
 ·obtain⟨v,e1,e2⟩:=r1.ob id ob ji
  exact⟨v,e1,e2.ext hE (λ_ _=>rfl)⟩
 ·have:rH [] (mG (xP (Array.replicate ol.toArray.size false)) (gD l) pre 0) t=gD l t:=by
   unfold rH
   simp only[look]
   exact sW (λj d u _ _=>hnone _)
  rw[this]
  exact hE.rep (r3 t)
theorem UW.draws{P:Program}{O9:Nat}(hm:P.follows .mixedOrders=true)(B:List Nat)(pre:List (Option (Nat×AV)))(JQ:List (List Nat))(cs0 k1:List Nat)(h0:cs0∈JQ)(he:mH B ol 0=true)(hCf:∀cs∈JQ,jv B ol pre cs k1)
 (hord:∀cs∈JQ,∀(a ca cb:Nat),1<=a->cs[a+1]? =some ca->cs[a]? =some cb->(B.getD ca 0).testBit cb=true)
 (hhead:∀cs∈JQ,∀c∈cs,(∃cs'∈JQ,cs'[0]? =some c)\/∃c'∈cs,(B.getD c 0).testBit c'=true)
 (hq:M P n ol H0 I B k1 pre l keep pre 0) (hk:∀cs∈JQ,CH P n ol Q H0 B pre l keep cs [] I):UW P n Q H0 (.region O9 ol.toArray true) l I:=by
 have hmem:∀cs∈JQ,cs.Perm cs0:=λcs hcs=>(List.perm_ext_iff_of_nodup (hCf cs hcs).nd (hCf cs0 h0).nd).2 λc=>by
  have aux:∀c1∈JQ,∀c2∈JQ,c∈c1->c∈c2:=λc1 h1 c2 h2 hc=>by
   have hcl:=(hCf c1 h1).lt c hc
   obtain⟨y,hy⟩:∃y,pre[c]? =some y:=⟨_,List.getElem?_eq_getElem (by rw[(hCf c1 h1).len];exact hcl)⟩
   cases y with
   |some du=>exact absurd hc ((hCf c1 h1).quiet c du.1 du.2 hy).1
   |none=>exact(hCf c2 h2).rest c hy
  exact⟨aux cs hcs cs0 h0,aux cs0 h0 cs hcs⟩
 refine UW.drawR (R:=λrem cr ob=>∃cs∈JQ,∃p,rem.Perm (cs.drop p)/\(p=0->cr=[]/\ob=I)/\CH P n ol Q H0 B pre l keep (cs.drop p) cr ob) hm B pre cs0 k1 he (hCf cs0 h0) ⟨?_,?_,?_⟩ hq ⟨cs0,h0,0,.refl _,λ_=>⟨rfl,rfl⟩,hk cs0 h0⟩
 ·rintro rem cr ob ⟨cs,_,p,_,_,h⟩;exact h.has
 ·rintro cr ob ⟨cs,_,p,hp,_,h⟩
  have e:cs.drop p=[]:=hp.symm.eq_nil
  rw[e] at h
  exact h.2
 ·rintro rem cr ob i ⟨cs,hcs,p,hp,hz,h⟩ hi hno
  have key:∀cs'∈JQ,∀p,rem.Perm (cs'.drop p)->CH P n ol Q H0 B pre l keep (cs'.drop p) cr ob->cs'[p]? =some i->∃o,ol[i]? =some o/\(∀d,o.dst=some d->d<n)/\(aP H0 ob->Does P n ol.toArray o (gD (oh B (dstsOf ol) pre cr l i)) (aD H0 ob) (λu H'=>∃aM,H'=aD H0 aM/\aP H0 aM/\
   ∃cs∈JQ,∃p,(rem.erase i).Perm (cs.drop p)/\(p=0->(match o.dst with|some d=>(d,u)::cr|none=>cr)=[]/\aM=I)/\CH P n ol Q H0 B pre l keep (cs.drop p) (match o.dst with|some d=>(d,u)::cr|none=>cr) aM)):=by
   intro cs' hcs' p hp h hpi
   have hdrop:cs'.drop p=i::cs'.drop (p+1):=by
    have hlt:=(List.getElem?_eq_some_iff.1 hpi).1
    rw[List.drop_eq_getElem_cons hlt];congr 1;exact(List.getElem?_eq_some_iff.1 hpi).2
   rw[hdrop] at h hp
   obtain⟨_,o,g1,g2,g3⟩:=h
   refine⟨o,g1,g2,λhd=>(g3 hd).mono ?_⟩
   rintro u H' ⟨aM,e1,e2,e3⟩
   refine⟨aM,e1,e2,cs',hcs',p+1,?_,λh=>by omega,e3⟩
   have:=hp.erase i
   rwa [List.erase_cons_head] at this
  obtain⟨k,hk'⟩:=List.getElem?_of_mem (hp.mem_iff.1 hi)
  rw[List.getElem?_drop] at hk'
  by_cases hk0:k=0
  ·subst hk0;exact key cs hcs p hp h hk'
  ·by_cases hp0:p=0
   ·subst hp0
    obtain⟨rfl,rfl⟩:=hz rfl
    rcases hhead cs hcs i (List.mem_of_getElem? hk') with ⟨cs',hcs',hh⟩|⟨c',hc',hb⟩
    ·exact key cs' hcs' 0 (by rw[List.drop_zero] at hp⊢;exact hp.trans ((hmem cs hcs).trans (hmem cs' hcs').symm)) (hk cs' hcs') hh
    ·rw[List.drop_zero] at hp
     rw[hno c' (hp.mem_iff.2 hc')] at hb;cases hb
   ·exfalso
    have hlt:=(List.getElem?_eq_some_iff.1 hk').1
    have e2:cs[p+k-1]? =some cs[p+k-1]:=List.getElem?_eq_getElem (by omega)
    have e3:=hord cs hcs (p+k-1) i _ (by omega) (by rw[show p+k-1+1=p+k from by omega];exact hk') e2
    rw[hno _ (hp.mem_iff.2 (List.mem_of_getElem? (i:=k-1) (by rw[List.getElem?_drop,show p+(k-1)=p+k-1 from by omega];exact e2)))] at e3
    cases e3
theorem UW.draw{P:Program}{O9:Nat}(hm:P.follows .mixedOrders=true)(B:List Nat)(pre:List (Option (Nat×AV)))(cs k1:List Nat)(he:mH B ol 0=true)(hch:uu B (pre.map λo=>o.map (·.1)) cs k1 (dstsOf ol)=true)
 (hq:M P n ol H0 I B k1 pre l keep pre 0) (hk:CH P n ol Q H0 B pre l keep cs [] I):UW P n Q H0 (.region O9 ol.toArray true) l I:=by
 refine UW.draws hm B pre [cs] cs k1 (by simp) he (λc hc=>by rw[List.mem_singleton.1 hc];exact jv.of he hch) (λc hc a ca cb _ h1 h2=>by rw[List.mem_singleton.1 hc] at h1 h2;exact jv.all hch _ _ _ _ h1 h2 (by omega)) (λc hc i hi=>?_) hq (λc hc=>by rw[List.mem_singleton.1 hc];exact hk)
 cases List.mem_singleton.1 hc
 obtain⟨a,ha⟩:=List.getElem?_of_mem hi
 cases a with
 |zero=>exact .inl ⟨cs,by simp,ha⟩
 |succ a=>
  have hlt:=(List.getElem?_eq_some_iff.1 ha).1
  have e0:=List.getElem?_eq_getElem (l:=cs) (i:=0) (by omega)
  exact .inr ⟨_,List.mem_of_getElem? e0,jv.all hch (a+1) 0 i _ ha e0 (by omega)⟩
def Pb(B:List Nat)(JQ:List (List Nat)):Bool:=JQ.all λcs=>cs.all λc=>(JQ.any λcs'=>cs'[0]? ==some c)||(cs.any λc'=>(B.getD c 0).testBit c')
theorem Pd{JQ:List (List Nat)}(h:Pb B JQ=true):∀cs∈JQ,∀c∈cs,(∃cs'∈JQ,cs'[0]? =some c)\/∃c'∈cs,(B.getD c 0).testBit c'=true:=by
 intro cs hcs c hc
 unfold Pb at h
 have h1:=List.all_eq_true.1 (List.all_eq_true.1 h cs hcs) c hc
 rw[Bool.or_eq_true] at h1
 rcases h1 with h1|h1
 ·obtain⟨cs',h2,h3⟩:=List.any_eq_true.1 h1
  exact .inl ⟨cs',h2,by simpa using h3⟩
 ·obtain⟨c',h2,h3⟩:=List.any_eq_true.1 h1
  exact .inr ⟨c',h2,h3⟩
end
end
end Go.iG
end
