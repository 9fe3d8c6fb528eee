/- A part of the proof. -/
import Derived.Test.YtbooeongacgnbaaGreatDoorMw04
import Derived.Orders
set_option maxRecDepth 100000
set_option maxHeartbeats 4000000
set_option linter.unusedSectionVars false
set_option linter.unusedVariables false
set_option linter.unusedSimpArgs false
section
namespace Go.gW
open Go Go.RowKit
section
variable [Rd]
def mE(b:Nat):List (Option (Nat×AV))->Nat->List (Nat×AV)
 |[],_=>[]
 |none::r,k=>mE b r (k+1)
 |some p::r,k=>if b.testBit k then p::mE b r (k+1) else mE b r (k+1)
def loose(B:List Nat)(i:Nat):List (Option Nat)->Nat->List Nat
 |[],_=>[]
 |none::r,k=>loose B i r (k+1)
 |some d::r,k=>if k=i\/(B.getD i 0).testBit k=true\/(B.getD k 0).testBit i=true then loose B i r (k+1) else d::loose B i r (k+1)
def Cm(aa:List Nat):List (Nat×AV)->List (Nat×AV)
 |[]=>[]
 |p::r=>if aa.contains p.1 then Cm aa r else p::Cm aa r
def ow(B:List Nat)(ds:List (Option Nat))(pre:List (Option (Nat×AV)))(cr l:List (Nat×AV))(i:Nat):List (Nat×AV):=cr++(mE (B.getD i 0) pre 0++Cm (loose B i ds 0) l)
def jQ(f:Nat->Bool)(T:Sl):List (Option (Nat×AV))->Nat->Nat->AV
 |[],_,t=>T t
 |none::r,k,t=>jQ f T r (k+1) t
 |some p::r,k,t=>if t=p.1/\f k=true then p.2 else jQ f T r (k+1) t
def nK(cr:List (Nat×AV))(T:Sl):Sl:=λt=>match look cr t with|some u=>u|none=>T t
def dstsOf(ol:List Oper):List (Option Nat):=ol.map (·.dst)
def kR(B:List Nat):List Oper->Nat->Bool
 |[],_=>true
 |o::r,i=>(o.after.toList.all λe=>!Region.binds .any e||decide (e.on<i))&&((List.range i).all λj=>!(B.getD i 0).testBit j||o.after.toList.any λe=>Region.binds .any e&&(e.on==j||(B.getD e.on 0).testBit j))&&((B.getD i 0)<2^i)&&kR B r (i+1)
def keysOf(pre:List (Option (Nat×AV))):List Nat:=pre.filterMap λo=>o.map (·.1)
def pJ(B:List Nat)(pre:List (Option Nat))(cs k1:List Nat)(ds:List (Option Nat)):Bool:=
 (pre.length==ds.length)&&
 ((List.range pre.length).all λi=>match pre.getD i none with
   |some d=>!cs.contains i&&ds.getD i none==some d&&(cs.all λc=>!(B.getD i 0).testBit c)
   |none=>cs.contains i)&&
 ((List.range cs.length).all λa=>(cs.getD a 0<pre.length)&&((List.range a).all λb=>(B.getD (cs.getD a 0) 0).testBit (cs.getD b 0))&&(k1.all λi=>(B.getD (cs.getD a 0) 0).testBit i))&&
 decide (ds.filterMap id).Nodup
section
variable {P:Program} {n:Nat} {Q:oo->Sl->Hp->Prop} {H0:Hp} {l cr:List (Nat×AV)} {pre:List (Option (Nat×AV))} {M keep:List (Nat×Ob)} {ol:List Oper} {B cs k1:List Nat} {E:Nu}
theorem nL:∀{ol:List Oper} {k:Nat},kR B ol k=true->∀{i:Nat} {o:Oper},ol[i]? =some o->
 (∀e∈o.after,Region.binds .any e=true->e.on<k+i)/\(∀j,(B.getD (k+i) 0).testBit j=true->j<k+i/\∃e∈o.after,Region.binds .any e=true/\(e.on=j\/(B.getD e.on 0).testBit j=true))
 |[],k,_,i,o,h=>by simp at h
 |p::r,k,h,i,o,hi=>by
  unfold kR at h
  simp only[Bool.and_eq_true,decide_eq_true_eq] at h
  obtain⟨⟨⟨h1,h2⟩,h3⟩,h4⟩:=h
  cases i with
  |zero=>
   simp at hi
   subst hi
   refine⟨λe he hb=>?_,λj hj=>?_⟩
   ·have:=List.all_eq_true.1 h1 e (by simpa using he)
    simpa[hb] using this
   ·have hlt:j<k:=by
     by_cases hjk:j<k
     ·exact hjk
     ·have h5:B.getD k 0<2^j:=Nat.lt_of_lt_of_le h3 (Nat.pow_le_pow_right (by decide) (by omega))
      have h6:(B.getD k 0).testBit j=true:=hj
      rw[Nat.testBit_lt_two_pow h5] at h6
      cases h6
    refine⟨hlt,?_⟩
    have h5:=List.all_eq_true.1 h2 j (by simpa using hlt)
    simp only[Nat.add_zero] at hj
    rw[hj] at h5
    simp only[Bool.not_true,Bool.false_or,List.any_eq_true,Bool.and_eq_true,Bool.or_eq_true,beq_iff_eq] at h5
    obtain⟨e,he,hb,hc⟩:=h5
    exact⟨e,by simpa using he,hb,hc⟩
  |succ i=>
   have:=nL h4 (i:=i) (by simpa using hi)
   have e1:k+1+i=k+(i+1):=by omega
   rw[e1] at this
   exact this
def Down(B:List Nat)(f:Nat->Bool):Prop:=∀i j,f i=true->(B.getD i 0).testBit j=true->f j=true
theorem xU{ops:Array Oper}{listed:Array Bool}{i:Nat}(h:i∈Region.ready .any ops listed):i<ops.size/\listed.getD i true=false/\∃o,ops[i]? =some o/\∀e∈o.after,Region.binds .any e=true->listed.getD e.on false=true:=by
 unfold Region.ready at h
 simp only[List.mem_filter,List.mem_range,Bool.and_eq_true,Bool.not_eq_true'] at h
 obtain⟨h1,h2,h3⟩:=h
 refine⟨h1,h2,?_⟩
 cases ho:ops[i]? with
 |none=>rw[ho] at h3;simp at h3
 |some o=>
  rw[ho] at h3
  refine⟨o,rfl,λe he hb=>?_⟩
  simp only[Option.map_some,Option.getD_some,Array.all_eq_true_iff_forall_mem] at h3
  have:=h3 e he
  simpa[hb] using this
theorem Nz{ops:Array Oper}{listed:Array Bool}{i:Nat}{o:Oper}(h1:i<ops.size)(h2:listed.getD i true=false)(ho:ops[i]? =some o)(h:∀e∈o.after,Region.binds .any e=true->listed.getD e.on false=true):i∈Region.ready .any ops listed:=by
 unfold Region.ready
 simp only[List.mem_filter,List.mem_range,Bool.and_eq_true,Bool.not_eq_true']
 refine⟨h1,h2,?_⟩
 rw[ho]
 simp only[Option.map_some,Option.getD_some,Array.all_eq_true_iff_forall_mem]
 intro e he
 cases hb:Region.binds .any e
 ·rfl
 ·simp only[Bool.not_true,Bool.false_or];exact h e he hb
def rX(listed:Array Bool):Nat->Bool:=λi=>listed.getD i false
theorem P8{listed:Array Bool}{i:Nat}(hi:i<listed.size)(j:Nat):rX (listed.setIfInBounds i true) j=if j=i then true else rX listed j:=by
 unfold rX
 rw[Array.getD_eq_getD_getElem?,Array.getD_eq_getD_getElem?,Array.getElem?_setIfInBounds]
 by_cases h:i=j
 ·subst h;simp[hi]
 ·rw[if_neg h,if_neg (Ne.symm h)]
theorem rY{listed:Array Bool}{i:Nat}(hi:i<listed.size):listed.getD i true=rX listed i:=by
 unfold rX;simp[Array.getD,hi]
theorem I4{ah:Fence}{m:Nat}{P:Program}{ops:Array Oper}{Qc:Exit->Act->World->Prop}{i:Nat}{o:Oper}{K:Act->World->Prop}{a:Act}{w:World}(ho:ops[i]? =some o):wpOpIn ah m P ops Qc i K a w=(if Region.wanted o (yielded ops a.tmps) then o.wpIn ah m P a w K Qc else(∀f,o.about P w a.eval=some f->ah.fn f)/\K (a.put o.dst undef) w):=by
 unfold wpOpIn;rw[ho]
theorem pK{aa:List Nat}:∀{r:List (Nat×AV)} {t:Nat} {u:AV},look (Cm aa r) t=some u->look r t=some u/\aa.contains t=false
 |[],t,u,h=>by simp[Cm,look] at h
 |p::r,t,u,h=>by
  unfold Cm at h
  split at h
  ·rename_i hc
   obtain⟨h1,h2⟩:=pK h
   refine⟨?_,h2⟩
   unfold look
   rw[if_neg]
   ·exact h1
   ·intro ht;subst ht;rw[hc] at h2;cases h2
  ·rename_i hc
   unfold look at h⊢
   split at h
   ·rename_i ht
    rw[if_pos ht]
    exact⟨h,by rw[ht];simpa using hc⟩
   ·rename_i ht
    rw[if_neg ht]
    exact pK h
theorem kX{a b:List (Nat×AV)}{t:Nat}:look (a++b) t=match look a t with|some u=>some u|none=>look b t:=by
 induction a with
 |nil=>simp[look]
 |cons p r ih=>
  obtain⟨d,u⟩:=p
  rw[List.cons_append]
  show(if t=d then some u else look (r++b) t)=(match (if t=d then some u else look r t) with|some u=>some u|none=>look b t)
  by_cases h:t=d
  ·rw[if_pos h,if_pos h]
  ·rw[if_neg h,if_neg h];exact ih
theorem Gj:∀{r:List (Nat×AV)} {t:Nat} {u:AV},look r t=some u->(t,u)∈r
 |[],t,u,h=>by cases h
 |(d,v)::r,t,u,h=>by
  unfold look at h
  split at h
  ·rename_i ht;cases h;subst ht;simp
  ·simp[Gj h]
theorem zS:∀{r:List (Nat×AV)} {t:Nat} {u:AV},(r.map (·.1)).Nodup->(t,u)∈r->look r t=some u
 |[],t,u,_,h=>by simp at h
 |(d,v)::r,t,u,hn,h=>by
  simp only[List.map_cons,List.nodup_cons] at hn
  unfold look
  rcases List.mem_cons.1 h with h|h
  ·cases h;rw[if_pos U]
  ·have:t≠d:=λe=>hn.1 (by rw[<-e];exact List.mem_map_of_mem (f:=(·.1)) h)
   rw[if_neg this]
   exact zS hn.2 h
theorem filter_one{f:Nat->Bool}{i m:Nat}(h:f i=false)(hi:i<m):((List.range m).filter λk=>(k==i)||f k).length=((List.range m).filter f).length+1:=by
 induction m with
 |zero=>omega
 |succ m ih=>
  rw[List.range_succ,List.filter_append,List.filter_append,List.length_append,List.length_append]
  by_cases him:i=m
  ·subst him
   have e1:(List.range i).filter (λk=>(k==i)||f k)=(List.range i).filter f:=by
    apply List.filter_congr
    intro k hk
    have:k≠i:=by have:=List.mem_range.1 hk;omega
    simp[this]
   rw[e1]
   simp[h]
  ·have:=ih (by omega)
   have TU:(m==i)=false:=by simp;omega
   rw[this]
   simp only[List.filter_cons,TU,Bool.false_or,List.filter_nil]
   omega
theorem qX{f:Nat->Bool}{T:Sl}:∀{r:List (Option (Nat×AV))} {k j d:Nat} {u:AV},(keysOf r).Nodup->r[j]? =some (some (d,u))->f (k+j)=true->jQ f T r k d=u
 |[],k,j,d,u,_,h,_=>by simp at h
 |none::r,k,0,d,u,_,h,_=>by simp at h
 |none::r,k,j+1,d,u,hn,h,hf=>by
  have:=qX (f:=f) (T:=T) (r:=r) (k:=k+1) (by simpa[keysOf] using hn) (by simpa using h) (by rw[<-hf];congr 1;omega)
  exact this
 |some p::r,k,0,d,u,hn,h,hf=>by
  simp at h;subst h
  have hf':f k=true:=hf
  simp[jQ,hf']
 |some p::r,k,j+1,d,u,hn,h,hf=>by
  have h':r[j]? =some (some (d,u)):=by simpa using h
  have hn':(p.1::keysOf r).Nodup:=by simpa[keysOf] using hn
  rw[List.nodup_cons] at hn'
  have hne:d≠p.1:=λe=>hn'.1 (by
   rw[<-e]
   exact List.mem_filterMap.2 ⟨some (d,u),List.mem_of_getElem? h',rfl⟩)
  simp only[jQ]
  rw[if_neg (λh=>hne h.1)]
  exact qX (f:=f) (T:=T) (k:=k+1) hn'.2 h' (by rw[<-hf];congr 1;omega)
theorem oU{f:Nat->Bool}{T:Sl}:∀{r:List (Option (Nat×AV))} {k t:Nat},(∀j d u,r[j]? =some (some (d,u))->d=t->f (k+j)=false)->jQ f T r k t=T t
 |[],k,t,_=>rfl
 |none::r,k,t,h=>oU (r:=r) (k:=k+1) (λj d u h1 h2=>by have:=h (j+1) d u (by simpa using h1) h2;rw[<-this];congr 1;omega)
 |some p::r,k,t,h=>by
  simp only[jQ]
  rw[if_neg]
  ·exact oU (λj d u h1 h2=>by have:=h (j+1) d u (by simpa using h1) h2;rw[<-this];congr 1;omega)
  ·rintro⟨h1,h2⟩
   have:=h 0 p.1 p.2 (by simp) h1.symm
   simp only[Nat.add_zero] at this
   rw[this] at h2;cases h2
theorem mF{b:Nat}:∀{r:List (Option (Nat×AV))} {k t:Nat} {u:AV},look (mE b r k) t=some u->∃j,r[j]? =some (some (t,u))/\b.testBit (k+j)=true
 |[],k,t,u,h=>by simp[mE,look] at h
 |none::r,k,t,u,h=>by
  obtain⟨j,h1,h2⟩:=mF (r:=r) (k:=k+1) h
  exact⟨j+1,by simpa using h1,by rw[<-h2];congr 1;omega⟩
 |some p::r,k,t,u,h=>by
  unfold mE at h
  split at h
  ·rename_i hb
   obtain⟨pd,pu⟩:=p
   have h':(if t=pd then some pu else look (mE b r (k+1)) t)=some u:=h
   split at h'
   ·rename_i ht
    cases h'
    exact⟨0,by simp[ht],hb⟩
   ·obtain⟨j,h1,h2⟩:=mF h'
    exact⟨j+1,by simpa using h1,by rw[<-h2];congr 1;omega⟩
  ·obtain⟨j,h1,h2⟩:=mF h
   exact⟨j+1,by simpa using h1,by rw[<-h2];congr 1;omega⟩
theorem tZ{b:Nat}:∀{r:List (Option (Nat×AV))} {k j d:Nat} {u:AV},r[j]? =some (some (d,u))->b.testBit (k+j)=true->∃v,look (mE b r k) d=some v
 |[],k,j,d,u,h,_=>by simp at h
 |none::r,k,0,d,u,h,_=>by simp at h
 |none::r,k,j+1,d,u,h,hb=>tZ (r:=r) (k:=k+1) (j:=j) (by simpa using h) (by rw[<-hb];congr 1;omega)
 |some p::r,k,0,d,u,h,hb=>by
  simp at h;subst h
  simp only[Nat.add_zero] at hb
  unfold mE
  rw[if_pos hb]
  exact⟨u,by simp[look]⟩
 |some p::r,k,j+1,d,u,h,hb=>by
  obtain⟨v,hv⟩:=tZ (r:=r) (k:=k+1) (by simpa using h) (by rw[<-hb];congr 1;omega)
  obtain⟨pd,pu⟩:=p
  unfold mE
  split
  ·show∃v,(if d=pd then some pu else look (mE b r (k+1)) d)=some v
   split
   ·exact⟨_,rfl⟩
   ·exact⟨v,hv⟩
  ·exact⟨v,hv⟩
theorem rZ{i:Nat}:∀{r:List (Option Nat)} {k j d:Nat},r[j]? =some (some d)->k+j≠i->(B.getD i 0).testBit (k+j)=false->(B.getD (k+j) 0).testBit i=false->(loose B i r k).contains d=true
 |[],k,j,d,h,_,_,_=>by simp at h
 |none::r,k,0,d,h,_,_,_=>by simp at h
 |none::r,k,j+1,d,h,h1,h2,h3=>by
  have e1:k+(j+1)=k+1+j:=by omega
  rw[e1] at h1 h2 h3
  exact rZ (r:=r) (k:=k+1) (by simpa using h) h1 h2 h3
 |some p::r,k,0,d,h,h1,h2,h3=>by
  simp at h;subst h
  unfold loose
  rw[if_neg (by
   simp only[Nat.add_zero] at h1 h2 h3
   rintro(h4|h4|h4)
   ·exact h1 h4
   ·rw[h2] at h4;cases h4
   ·rw[h3] at h4;cases h4)]
  simp
 |some p::r,k,j+1,d,h,h1,h2,h3=>by
  have e1:k+(j+1)=k+1+j:=by omega
  rw[e1] at h1 h2 h3
  have:=rZ (r:=r) (k:=k+1) (by simpa using h) h1 h2 h3
  unfold loose
  split
  ·exact this
  ·simp only[List.contains_cons,Bool.or_eq_true];exact .inr this
theorem nM{f f':Nat->Bool}{T T':Sl}:∀{r:List (Option (Nat×AV))} {k t:Nat},(∀j d u,r[j]? =some (some (d,u))->d=t->f (k+j)=f' (k+j))->T t=T' t->jQ f T r k t=jQ f' T' r k t
 |[],k,t,_,h=>h
 |none::r,k,t,h,hT=>nM (f:=f) (f':=f') (r:=r) (k:=k+1) (λj d u h1 h2=>by
   have e:k+1+j=k+(j+1):=by omega
   rw[e];exact h (j+1) d u (by simpa using h1) h2) hT
 |some p::r,k,t,h,hT=>by
  simp only[jQ]
  have ih:=nM (f:=f) (f':=f') (T:=T) (T':=T') (r:=r) (k:=k+1) (t:=t) (λj d u h1 h2=>by
   have e:k+1+j=k+(j+1):=by omega
   rw[e];exact h (j+1) d u (by simpa using h1) h2) hT
  by_cases ht:t=p.1
  ·have h0:=h 0 p.1 p.2 (by simp) ht.symm
   simp only[Nat.add_zero] at h0
   rw[h0,ih]
  ·rw[if_neg (λh=>ht h.1),if_neg (λh=>ht h.1),ih]
def QS(P:Program)(n:Nat)(ops:Array Oper)(H0:Hp)(o:Oper)(l:List (Nat×AV))(M:List (Nat×Ob))(u:AV):Prop:=
 aK H0 M->Does P n ops o (gz l) (aB H0 M) (λu' H'=>u'=u/\H'=aB H0 M)
inductive Has:List (Nat×Ob)->List (Nat×Ob)->Prop
 |n {M:List (Nat×Ob)}:Has [] M
 |c {p:Nat×Ob} {r M:List (Nat×Ob)} (k:Nat) (h:M[k]? =some p) (t:Has r M):Has (p::r) M
theorem Has.get{p:Nat×Ob}:∀{r M:List (Nat×Ob)} {j:Nat},Has r M->r[j]? =some p->∃k:Nat,M[k]? =some p
 |[],_,j,_,h=>by simp at h
 |_::_,_,0,.c k h _,hj=>by simp at hj;subst hj;exact⟨k,h⟩
 |_::_,_,j+1,.c _ _ t,hj=>t.get (j:=j) (by simpa using hj)
def CH(P:Program)(n:Nat)(ol:List Oper)(Q:oo->Sl->Hp->Prop)(H0:Hp)(B:List Nat)(pre:List (Option (Nat×AV)))(l:List (Nat×AV))(keep:List (Nat×Ob)):List Nat->List (Nat×AV)->List (Nat×Ob)->Prop
 |[],cr,M=>Has keep M/\UQ Q H0 .normal (cr++((pre.filterMap id).reverse++l)) M
 |c::cs,cr,M=>Has keep M/\∃o,ol[c]? =some o/\(∀d,o.dst=some d->d<n)/\(aK H0 M->Does P n ol.toArray o (gz (ow B (dstsOf ol) pre cr l c)) (aB H0 M) (λu H'=>∃aL,H'=aB H0 aL/\aK H0 aL/\
   CH P n ol Q H0 B pre l keep cs (match o.dst with|some d=>(d,u)::cr|none=>cr) aL))
theorem CH.has{P:Program}{n:Nat}{ol:List Oper}{Q:oo->Sl->Hp->Prop}{H0:Hp}{B:List Nat}{pre:List (Option (Nat×AV))}{l cr:List (Nat×AV)}{keep M:List (Nat×Ob)}:∀{cs:List Nat},CH P n ol Q H0 B pre l keep cs cr M->Has keep M
 |[],h=>h.1
 |_::_,h=>h.1
structure jk(B:List Nat)(ol:List Oper)(pre:List (Option (Nat×AV)))(cs k1:List Nat):Prop where
 len:pre.length=ol.length
 quiet:∀(i d:Nat) (u:AV),pre[i]? =some (some (d,u))->i∉cs/\(∃o,ol[i]? =some o/\o.dst=some d)/\∀c∈cs,(B.getD i 0).testBit c=false
 rest:∀(i:Nat),pre[i]? =some none->i∈cs
 lt:∀c∈cs,c<ol.length
 nd:cs.Nodup
 first:∀c∈cs,∀i∈k1,(B.getD c 0).testBit i=true
 nodup:∀(i j d:Nat) (oi oj:Oper),ol[i]? =some oi->ol[j]? =some oj->oi.dst=some d->oj.dst=some d->i=j
theorem jk.inj(h:jk B ol pre cs k1)(a b c:Nat)(ha:cs[a]? =some c)(hb:cs[b]? =some c):a=b:=by
 obtain⟨h5,h6⟩:=List.getElem?_eq_some_iff.1 ha
 obtain⟨h7,h8⟩:=List.getElem?_eq_some_iff.1 hb
 exact(List.getElem_inj h.nd).1 (h6.trans h8.symm)
theorem jk.perm{cs':List Nat}(h:jk B ol pre cs k1)(hp:cs'.Perm cs):jk B ol pre cs' k1:=
 ⟨h.len,λi d u hi=>⟨λhm=>(h.quiet i d u hi).1 (hp.mem_iff.1 hm),(h.quiet i d u hi).2.1,λc hc=>(h.quiet i d u hi).2.2 c (hp.mem_iff.1 hc)⟩,λi hi=>hp.mem_iff.2 (h.rest i hi),λc hc=>h.lt c (hp.mem_iff.1 hc),hp.nodup_iff.2 h.nd,λc hc=>h.first c (hp.mem_iff.1 hc),h.nodup⟩
theorem jB{α:Type}:∀{l:List (Option α)},(l.filterMap id).Nodup->∀{i j:Nat} {d:α},l[i]? =some (some d)->l[j]? =some (some d)->i=j
 |[],_,i,j,d,h,_=>by simp at h
 |none::r,hn,0,_,d,h,_=>by simp at h
 |none::r,hn,_+1,0,d,_,h=>by simp at h
 |none::r,hn,i+1,j+1,d,h1,h2=>by
  have:=jB (l:=r) (by simpa using hn) (i:=i) (j:=j) (by simpa using h1) (by simpa using h2)
  omega
 |some a::r,hn,i,j,d,h1,h2=>by
  have hn':(a::r.filterMap id).Nodup:=by simpa using hn
  rw[List.nodup_cons] at hn'
  cases i with
  |zero=>
   cases j with
   |zero=>rfl
   |succ j=>
    simp at h1;subst h1
    exact absurd (List.mem_filterMap.2 ⟨some a,List.mem_of_getElem? (by simpa using h2:r[j]? =some (some a)),rfl⟩:a∈r.filterMap id) hn'.1
  |succ i=>
   cases j with
   |zero=>
    simp at h2;subst h2
    exact absurd (List.mem_filterMap.2 ⟨some a,List.mem_of_getElem? (by simpa using h1:r[i]? =some (some a)),rfl⟩:a∈r.filterMap id) hn'.1
   |succ j=>
    have:=jB hn'.2 (i:=i) (j:=j) (by simpa using h1) (by simpa using h2)
    omega
def zT(B:List Nat)(pre:List (Option Nat))(cs k1:List Nat)(ds:List (Option Nat)):Bool:=
 (pre.length==ds.length)&&
 ((List.range pre.length).all λi=>match pre.getD i none with
   |some d=>!cs.contains i&&ds.getD i none==some d&&(cs.all λc=>!(B.getD i 0).testBit c)
   |none=>cs.contains i)&&
 ((List.range cs.length).all λa=>(cs.getD a 0<pre.length)&&(k1.all λi=>(B.getD (cs.getD a 0) 0).testBit i))&&
 decide (ds.filterMap id).Nodup&&decide cs.Nodup
theorem jk.Z5(h:zT B (pre.map λo=>o.map (·.1)) cs k1 (dstsOf ol)=true):jk B ol pre cs k1:=by
 unfold zT at h
 simp only[Bool.and_eq_true,beq_iff_eq,decide_eq_true_eq,List.all_eq_true,List.mem_range,List.length_map] at h
 obtain⟨⟨⟨⟨h1,h2⟩,h3⟩,h4⟩,hnd⟩:=h
 have hlen:pre.length=ol.length:=by rw[h1];simp[dstsOf]
 have hg:∀i,(pre.map λo=>o.map (·.1)).getD i none=match pre[i]? with|some (some p)=>some p.1|_=>none:=by
  intro i
  rw[List.getD_eq_getElem?_getD,List.getElem?_map]
  cases pre[i]? with
  |none=>rfl
  |some o=>cases o<;>rfl
 refine⟨hlen,?_,?_,?_,hnd,?_,?_⟩
 ·intro i d u hi
  have hil:i<pre.length:=(List.getElem?_eq_some_iff.1 hi).1
  have h5:=h2 i hil
  rw[hg,hi] at h5
  simp only[Bool.and_eq_true,Bool.not_eq_true',beq_iff_eq,List.all_eq_true] at h5
  obtain⟨⟨h6,h7⟩,h8⟩:=h5
  refine⟨by simpa using h6,?_,λc hc=>by simpa using h8 c hc⟩
  obtain⟨o,ho⟩:∃o,ol[i]? =some o:=⟨_,List.getElem?_eq_getElem (by omega)⟩
  refine⟨o,ho,?_⟩
  rw[List.getD_eq_getElem?_getD,dstsOf,List.getElem?_map,ho] at h7
  simpa using h7
 ·intro i hi
  have hil:i<pre.length:=(List.getElem?_eq_some_iff.1 hi).1
  have h5:=h2 i hil
  rw[hg,hi] at h5
  simpa using h5
 ·intro c hc
  obtain⟨a,ha⟩:=List.getElem?_of_mem hc
  have h5:=h3 a (List.getElem?_eq_some_iff.1 ha).1
  have e:cs.getD a 0=c:=by rw[List.getD_eq_getElem?_getD,ha];rfl
  rw[e] at h5
  rw[<-hlen];exact h5.1
 ·intro c hc i hi
  obtain⟨a,ha⟩:=List.getElem?_of_mem hc
  have h5:=h3 a (List.getElem?_eq_some_iff.1 ha).1
  have e:cs.getD a 0=c:=by rw[List.getD_eq_getElem?_getD,ha];rfl
  rw[e] at h5
  exact h5.2 i hi
 ·intro i j d oi oj hi hj hdi hdj
  exact jB (l:=dstsOf ol) h4 (d:=d) (by rw[dstsOf,List.getElem?_map,hi];simp[hdi]) (by rw[dstsOf,List.getElem?_map,hj];simp[hdj])
theorem jk.all{cs:List Nat}(h:pJ B (pre.map λo=>o.map (·.1)) cs k1 (dstsOf ol)=true):∀(a b ca cb:Nat),cs[a]? =some ca->cs[b]? =some cb->b<a->(B.getD ca 0).testBit cb=true:=by
 unfold pJ at h
 simp only[Bool.and_eq_true,beq_iff_eq,decide_eq_true_eq,List.all_eq_true,List.mem_range,List.length_map] at h
 obtain⟨⟨⟨h1,h2⟩,h3⟩,h4⟩:=h
 intro a b ca cb ha hb hab
 have h5:=h3 a (List.getElem?_eq_some_iff.1 ha).1
 have ea:cs.getD a 0=ca:=by rw[List.getD_eq_getElem?_getD,ha];rfl
 have eb:cs.getD b 0=cb:=by rw[List.getD_eq_getElem?_getD,hb];rfl
 rw[ea] at h5
 have:=h5.1.2 b hab
 rwa [eb] at this
theorem jk.of(he:kR B ol 0=true)(h:pJ B (pre.map λo=>o.map (·.1)) cs k1 (dstsOf ol)=true):jk B ol pre cs k1:=by
 have hall:=jk.all h
 unfold pJ at h
 simp only[Bool.and_eq_true,beq_iff_eq,decide_eq_true_eq,List.all_eq_true,List.mem_range,List.length_map] at h
 obtain⟨⟨⟨h1,h2⟩,h3⟩,h4⟩:=h
 have hlen:pre.length=ol.length:=by rw[h1];simp[dstsOf]
 have hg:∀i,(pre.map λo=>o.map (·.1)).getD i none=match pre[i]? with|some (some p)=>some p.1|_=>none:=by
  intro i
  rw[List.getD_eq_getElem?_getD,List.getElem?_map]
  cases pre[i]? with
  |none=>rfl
  |some o=>cases o<;>rfl
 refine⟨hlen,?_,?_,?_,?_,?_,?_⟩
 ·intro i d u hi
  have hil:i<pre.length:=(List.getElem?_eq_some_iff.1 hi).1
  have h5:=h2 i hil
  rw[hg,hi] at h5
  simp only[Bool.and_eq_true,Bool.not_eq_true',beq_iff_eq,List.all_eq_true] at h5
  obtain⟨⟨h6,h7⟩,h8⟩:=h5
  refine⟨by simpa using h6,?_,λc hc=>by simpa using h8 c hc⟩
  obtain⟨o,ho⟩:∃o,ol[i]? =some o:=⟨_,List.getElem?_eq_getElem (by omega)⟩
  refine⟨o,ho,?_⟩
  rw[List.getD_eq_getElem?_getD,dstsOf,List.getElem?_map,ho] at h7
  simpa using h7
 ·intro i hi
  have hil:i<pre.length:=(List.getElem?_eq_some_iff.1 hi).1
  have h5:=h2 i hil
  rw[hg,hi] at h5
  simpa using h5
 ·intro c hc
  obtain⟨a,ha⟩:=List.getElem?_of_mem hc
  have h5:=h3 a (List.getElem?_eq_some_iff.1 ha).1
  have e:cs.getD a 0=c:=by rw[List.getD_eq_getElem?_getD,ha];rfl
  rw[e] at h5
  rw[<-hlen];exact h5.1.1
 ·refine List.pairwise_iff_getElem.2 λa b h5 h6 h7 h8=>?_
  have ha:=List.getElem?_eq_getElem h5
  have hb:=List.getElem?_eq_getElem h6
  have e:cs.getD a 0=cs[a]:=by rw[List.getD_eq_getElem?_getD,ha];rfl
  have h9:=(h3 a h5).1.1
  rw[e] at h9
  obtain⟨o,ho⟩:∃o,ol[cs[a]]? =some o:=⟨_,List.getElem?_eq_getElem (by rw[<-hlen];exact h9)⟩
  have e4:=nL he ho
  simp only[Nat.zero_add] at e4
  have:=hall b a _ _ hb ha h7
  rw[<-h8] at this
  have:=(e4.2 _ this).1
  omega
 ·intro c hc i hi
  obtain⟨a,ha⟩:=List.getElem?_of_mem hc
  have h5:=h3 a (List.getElem?_eq_some_iff.1 ha).1
  have e:cs.getD a 0=c:=by rw[List.getD_eq_getElem?_getD,ha];rfl
  rw[e] at h5
  exact h5.2 i hi
 ·intro i j d oi oj hi hj hdi hdj
  exact jB (l:=dstsOf ol) h4 (d:=d) (by rw[dstsOf,List.getElem?_map,hi];simp[hdi]) (by rw[dstsOf,List.getElem?_map,hj];simp[hdj])
structure Z6(P:Program)(n:Nat)(ol:List Oper)(Q:oo->Sl->Hp->Prop)(H0:Hp)(B:List Nat)(pre:List (Option (Nat×AV)))(l:List (Nat×AV))(keep:List (Nat×Ob))(R:List Nat->List (Nat×AV)->List (Nat×Ob)->Prop):Prop where
 has:∀{rem cr M},R rem cr M->Has keep M
 fin:∀{cr M},R [] cr M->UQ Q H0 .normal (cr++((pre.filterMap id).reverse++l)) M
 step:∀{rem cr M i},R rem cr M->i∈rem->(∀c∈rem,(B.getD i 0).testBit c=false)->∃o,ol[i]? =some o/\(∀d,o.dst=some d->d<n)/\(aK H0 M->Does P n ol.toArray o (gz (ow B (dstsOf ol) pre cr l i)) (aB H0 M) (λu H'=>∃aL,H'=aB H0 aL/\aK H0 aL/\
  R (rem.erase i) (match o.dst with|some d=>(d,u)::cr|none=>cr) aL))
structure At(P:Program)(n:Nat)(Q:oo->Sl->Hp->Prop)(H0:Hp)(E:Nu)(B:List Nat)(ol:List Oper)(pre:List (Option (Nat×AV)))(cs k1:List Nat)(l:List (Nat×AV))(R:List Nat->List (Nat×AV)->List (Nat×Ob)->Prop)(WT:List (Nat×Ob))(f:Nat->Bool)(p:Nat)(cr:List (Nat×AV))(M:List (Nat×Ob))(a:Act)(w:World):Prop where
 down:Down B f
 X8:p<=cs.length
 chain:∀(k c:Nat),cs[k]? =some c->f c=decide (k<p)
 NA:0<p->∀i∈k1,f i=true
 start:p=0->M=WT/\cr=[]
 NB:aK H0 M
 WA:∀(t:Nat) (u:AV),look cr t=some u->∃k c o,k<p/\cs[k]? =some c/\ol[c]? =some o/\o.dst=some t
 Yo:∀(k c:Nat) (o:Oper) (d:Nat),k<p->cs[k]? =some c->ol[c]? =some o->o.dst=some d->∃u,look cr d=some u
 ch:∃rem,rem.Perm (cs.drop p)/\R rem cr M
 inv:Inv E n (nK cr (jQ f (gz l) pre 0)) (aB H0 M) a w
theorem uf(hC:jk B ol pre cs k1):(keysOf pre).Nodup:=by
 unfold keysOf
 have:∀(r:List (Option (Nat×AV))) (k:Nat),(∀(j:Nat) (o:Option (Nat×AV)),r[j]? =some o->pre[k+j]? =some o)->(r.filterMap λo=>o.map (·.1)).Nodup:=by
  intro r
  induction r with
  |nil=>intro k _;simp
  |cons o r ih=>
   intro k hk
   have ih':=ih (k+1) (λj o' h=>by have:=hk (j+1) o' (by simpa using h);rw[<-this];congr 1;omega)
   cases o with
   |none=>simpa using ih'
   |some q=>
    rw[List.filterMap_cons_some (by rfl:(some q:Option (Nat×AV)).map (·.1)=some q.1),List.nodup_cons]
    refine⟨λhm=>?_,ih'⟩
    obtain⟨o',ho',he⟩:=List.mem_filterMap.1 hm
    obtain⟨j,hj⟩:=List.getElem?_of_mem ho'
    cases o' with
    |none=>cases he
    |some q'=>
     have he':q'.1=q.1:=by simpa using he
     have e1:=hk 0 (some q) (by simp)
     have e2:=hk (j+1) (some q') (by simpa using hj)
     obtain⟨_,⟨o1,g1,g2⟩,_⟩:=hC.quiet k q.1 q.2 (by simpa using e1)
     obtain⟨_,⟨o2,g3,g4⟩,_⟩:=hC.quiet (k+(j+1)) q'.1 q'.2 (by simpa using e2)
     have:=hC.nodup _ _ _ _ _ g1 g3 g2 (by rw[g4,he'])
     omega
 exact this pre 0 (λj o h=>by rw[Nat.zero_add];exact h)
theorem NC{f:Nat->Bool}{i:Nat}(hC:jk B ol pre cs k1)(hd:Down B f)(hfi:f i=false)(vI:∀j,(B.getD i 0).testBit j=true->f j=true)(t:Nat)(v:AV)(hl:look (ow B (dstsOf ol) pre cr l i) t=some v):nK cr (jQ f (gz l) pre 0) t=v:=by
 unfold ow at hl
 rw[kX] at hl
 unfold nK
 cases hcr:look cr t with
 |some v'=>rw[hcr] at hl;cases hl;rfl
 |none=>
  rw[hcr] at hl
  simp only at hl⊢
  have hnd:(keysOf pre).Nodup:=uf hC
  rw[kX] at hl
  cases hdl:look (mE (B.getD i 0) pre 0) t with
  |some v'=>
   rw[hdl] at hl
   cases hl
   obtain⟨j,q1,q2⟩:=mF hdl
   exact qX hnd q1 (by rw[Nat.zero_add] at q2⊢;exact vI j q2)
  |none=>
   rw[hdl] at hl
   obtain⟨q1,q2⟩:=pK hl
   rw[oU]
   ·unfold gz;rw[q1];rfl
   ·intro j d' u' q3 q4
    subst q4
    rw[Nat.zero_add]
    by_cases hji:j=i
    ·rw[hji];exact hfi
    ·cases hb1:(B.getD i 0).testBit j with
     |true=>
      exfalso
      obtain⟨v',hv'⟩:∃v,look (mE (B.getD i 0) pre 0) d'=some v:=tZ q3 (by rw[Nat.zero_add];exact hb1)
      rw[hdl] at hv';cases hv'
     |false=>
      cases hb2:(B.getD j 0).testBit i with
      |true=>
       cases hfj:f j with
       |false=>rfl
       |true=>
        have:=hd j i hfj hb2
        rw[hfi] at this;cases this
      |false=>
       exfalso
       obtain⟨_,⟨o,g1,g2⟩,_⟩:=hC.quiet j d' u' q3
       have h6:(dstsOf ol)[j]? =some (some d'):=by rw[dstsOf,List.getElem?_map,g1];simp[g2]
       have:=rZ (B:=B) (i:=i) (k:=0) h6 (by rw[Nat.zero_add];exact hji) (by rw[Nat.zero_add];exact hb1) (by rw[Nat.zero_add];exact hb2)
       rw[this] at q2;cases q2
def I(P:Program)(n:Nat)(ol:List Oper)(H0:Hp)(M:List (Nat×Ob))(B:List Nat)(k1:List Nat)(pre:List (Option (Nat×AV)))(l:List (Nat×AV))(keep:List (Nat×Ob)):List (Option (Nat×AV))->Nat->Prop
 |[],_=>True
 |none::r,i=>I P n ol H0 M B k1 pre l keep r (i+1)
 |some p::r,i=>(p.1<n/\∃o,ol[i]? =some o/\(if i∈k1 then QS P n ol.toArray H0 o (ow B (dstsOf ol) pre [] l i) M p.2 else∀M,Has keep M->QS P n ol.toArray H0 o (ow B (dstsOf ol) pre [] l i) M p.2))/\I P n ol H0 M B k1 pre l keep r (i+1)
theorem zU:∀{r:List (Option (Nat×AV))} {k:Nat},I P n ol H0 M B k1 pre l keep r k->∀{j d:Nat} {u:AV},r[j]? =some (some (d,u))->d<n/\∃o,ol[k+j]? =some o/\(if k+j∈k1 then QS P n ol.toArray H0 o (ow B (dstsOf ol) pre [] l (k+j)) M u else∀M,Has keep M->QS P n ol.toArray H0 o (ow B (dstsOf ol) pre [] l (k+j)) M u)
 |[],k,_,j,d,u,hj=>by simp at hj
 |none::r,k,h,0,d,u,hj=>by simp at hj
 |none::r,k,h,j+1,d,u,hj=>by
  have:=zU (r:=r) (k:=k+1) h (j:=j) (by simpa using hj)
  rwa [show k+1+j=k+(j+1) by omega] at this
 |some p::r,k,h,0,d,u,hj=>by simp at hj;subst hj;exact h.1
 |some p::r,k,h,j+1,d,u,hj=>by
  have:=zU (r:=r) (k:=k+1) h.2 (j:=j) (by simpa using hj)
  rwa [show k+1+j=k+(j+1) by omega] at this
theorem P9{f:Nat->Bool}{p i d:Nat}{u:AV}(hC:jk B ol pre cs k1)(hd:Down B f)(hi:pre[i]? =some (some (d,u)))(TV:∀(k c:Nat),cs[k]? =some c->f c=decide (k<p))
 (Yp:∀(t:Nat) (u:AV),look cr t=some u->∃k c o,k<p/\cs[k]? =some c/\ol[c]? =some o/\o.dst=some t)
 (hfi:f i=false) (vI:∀j,(B.getD i 0).testBit j=true->f j=true) (t:Nat) (v:AV) (hl:look (ow B (dstsOf ol) pre [] l i) t=some v):nK cr (jQ f (gz l) pre 0) t=v:=by
 have h1:=NC (cr:=[]) hC hd hfi vI t v hl
 have h2:look cr t=none:=by
  cases hcr:look cr t with
  |none=>rfl
  |some v'=>
   exfalso
   obtain⟨k,c,o,hk,hc,ho,hdst⟩:=Yp t v' hcr
   have hfc:f c=true:=by rw[TV k c hc];simpa using hk
   unfold ow at hl
   rw[List.nil_append,kX] at hl
   obtain⟨hni,_,hnb⟩:=hC.quiet i d u hi
   have hcm:=List.mem_of_getElem? hc
   cases hdl:look (mE (B.getD i 0) pre 0) t with
   |some v''=>
    obtain⟨j,q1,q2⟩:=mF hdl
    obtain⟨Yq,⟨oj,g1,g2⟩,_⟩:=hC.quiet j t v'' q1
    have:=hC.nodup _ _ _ _ _ g1 ho g2 hdst
    subst this
    exact Yq hcm
   |none=>
    rw[hdl] at hl
    obtain⟨q1,q2⟩:=pK hl
    have h6:(dstsOf ol)[c]? =some (some t):=by rw[dstsOf,List.getElem?_map,ho];simp[hdst]
    have hci:c≠i:=λe=>hni (e▸hcm)
    have hbc:(B.getD c 0).testBit i=false:=by
     cases h:(B.getD c 0).testBit i with
     |false=>rfl
     |true=>have:=hd c i hfc h;rw[hfi] at this;cases this
    have:=rZ (B:=B) (i:=i) (k:=0) h6 (by rw[Nat.zero_add];exact hci) (by rw[Nat.zero_add];exact hnb c hcm) (by rw[Nat.zero_add];exact hbc)
    rw[this] at q2;cases q2
 unfold nK at h1⊢
 rw[h2]
 exact h1
theorem D5{T:Sl}{a:Act}{w:World}{ρ:fK}{H:Hp}{ls:List (Nat×AV)}(r3:∀t,dL (bK ρ H) ρ w (T t) (a.tmps.getD t undef))(h:∀(t:Nat) (v:AV),look ls t=some v->T t=v):∀t,dL (bK ρ H) ρ w (gz ls t) (a.tmps.getD t undef):=by
 intro t
 unfold gz
 cases hl:look ls t with
 |none=>exact .any _
 |some v=>have:=r3 t;rw[h t v hl] at this;exact this
theorem UW.Ti{P:Program}{ND:Nat}{R:List Nat->List (Nat×AV)->List (Nat×Ob)->Prop}(hm:P.follows .mixedOrders=true)(B:List Nat)(pre:List (Option (Nat×AV)))(cs0 k1:List Nat)(he:kR B ol 0=true)(hC0:jk B ol pre cs0 k1)(hR:Z6 P n ol Q H0 B pre l keep R)
 (hq:I P n ol H0 M B k1 pre l keep pre 0) (hk:R cs0 [] M):UW P n Q H0 (.region ND ol.toArray true) l M:=by
 intro hd0 E a0 w0 hi0
 refine wpIn_region_any hm<|?_
 have key:∀(fuel:Nat) (listed:Array Bool) (p:Nat) (cs:List Nat) (hC:jk B ol pre cs k1) (cr:List (Nat×AV)) (aL:List (Nat×Ob)) (a:Act) (w:World),listed.size=ol.length->ol.length<=fuel+((List.range ol.length).filter (rX listed)).length->
  At P n Q H0 E B ol pre cs k1 l R M (rX listed) p cr aL a w->wpAnyIn (Nv Rd.r) 3 P .any ol.toArray (lift E n Q) fuel listed a w:=by
  intro fuel
  -- all is listed
  have final:∀(listed:Array Bool) (p:Nat) (cs:List Nat) (hC:jk B ol pre cs k1) (cr:List (Nat×AV)) (aL:List (Nat×Ob)) (a:Act) (w:World),(∀j,j<ol.length->rX listed j=true)->At P n Q H0 E B ol pre cs k1 l R M (rX listed) p cr aL a w->lift E n Q .normal a w:=by
   intro listed p cs hC cr aL a w hall h
   have hp:p=cs.length:=by
    by_cases hpl:p=cs.length
    ·exact hpl
    ·exfalso
     have hlt:p<cs.length:=by have:=h.X8;omega
     have e:=List.getElem?_eq_getElem hlt
     have h1:=h.chain p _ e
     rw[hall _ (hC.lt _ (List.mem_of_getElem? e))] at h1
     simp at h1
   obtain⟨rem,hrm,hc⟩:=h.ch
   rw[hp,List.drop_length] at hrm
   rw[hrm.eq_nil] at hc
   replace hc:=hR.fin hc
   obtain⟨ρ,r1,r2,r3⟩:=h.inv.rel
   refine⟨_,_,⟨h.inv.size,h.inv.defers,ρ,r1,r2,D5 r3 ?_⟩,hc h.NB⟩
   intro t v hl
   rw[kX] at hl
   unfold nK
   cases hcr:look cr t with
   |some v'=>rw[hcr] at hl;cases hl;rfl
   |none=>
    rw[hcr] at hl
    simp only at hl⊢
    rw[kX] at hl
    have hnd:(keysOf pre).Nodup:=uf hC
    cases hpl:look (pre.filterMap id).reverse t with
    |some v'=>
     rw[hpl] at hl
     cases hl
     have hm:=Gj hpl
     rw[List.mem_reverse] at hm
     obtain⟨o,ho,he⟩:=List.mem_filterMap.1 hm
     obtain⟨j,hj⟩:=List.getElem?_of_mem ho
     simp only[id] at he
     subst he
     exact qX hnd hj (by rw[Nat.zero_add];exact hall j (by rw[<-hC.len];exact(List.getElem?_eq_some_iff.1 hj).1))
    |none=>
     rw[hpl] at hl
     rw[oU]
     ·simp only at hl;unfold gz;rw[hl];rfl
     ·intro j d u hj hdt
      exfalso
      subst hdt
      have hmem:(d,u)∈(pre.filterMap id).reverse:=by
       rw[List.mem_reverse]
       exact List.mem_filterMap.2 ⟨some (d,u),List.mem_of_getElem? hj,rfl⟩
      have hkn:(((pre.filterMap id).reverse).map (·.1)).Nodup:=by
       rw[List.map_reverse]
       refine(List.reverse_perm _).nodup_iff.2<|?_
       have:(pre.filterMap id).map (·.1)=keysOf pre:=by unfold keysOf;rw[List.map_filterMap];rfl
       rw[this];exact hnd
      rw[zS hkn hmem] at hpl
      cases hpl
  induction fuel with
  |zero=>
   intro listed p cs hC cr aL a w hs hf h
   have hfl:=List.length_filter_le (rX listed) (List.range ol.length)
   rw[List.length_range] at hfl
   have hall:∀j,j<ol.length->rX listed j=true:=by
    intro j hj
    have h1:((List.range ol.length).filter (rX listed)).length=(List.range ol.length).length:=by rw[List.length_range];omega
    exact List.length_filter_eq_length_iff.1 h1 j (by simpa using hj)
   refine⟨?_,final listed p cs hC cr aL a w hall h⟩
   cases hr:Region.ready .any ol.toArray listed with
   |nil=>rfl
   |cons j r=>
    have:=xU (by rw[hr];exact List.mem_cons_self:j∈Region.ready .any ol.toArray listed)
    have hj:j<ol.length:=by simpa using this.1
    rw[rY (by omega),hall j hj] at this
    simp at this
  |succ fuel ih=>
   intro listed p cs hC cr aL a w hs hf h
   by_cases hall:∀j,j<ol.length->rX listed j=true
   ·refine⟨λ_=>final listed p cs hC cr aL a w hall h,λj hj=>?_⟩
    have:=xU hj
    have hjl:j<ol.length:=by simpa using this.1
    rw[rY (by omega),hall j hjl] at this
    simp at this
   ·have hex:∃j,j<ol.length/\rX listed j=false:=by
     simp only[Classical.not_forall] at hall
     obtain⟨j,hj,h⟩:=hall
     exact⟨j,hj,by simpa using h⟩
    have TW:∃j,j<ol.length/\rX listed j=false/\∀k,k<j->rX listed k=true:=by
     obtain⟨j,h1,h2⟩:=hex
     induction j using Nat.strongRecOn with
     |_ j Z7=>
      by_cases hk2:∀k,k<j->rX listed k=true
      ·exact⟨j,h1,h2,hk2⟩
      ·simp only[Classical.not_forall] at hk2
       obtain⟨k,hk3,h4⟩:=hk2
       exact Z7 k hk3 (by omega) (by simpa using h4)
    obtain⟨j0,hj0,hj1,hj2⟩:=TW
    have hin:j0∈Region.ready .any ol.toArray listed:=by
     obtain⟨o,ho⟩:∃o,ol[j0]? =some o:=⟨_,List.getElem?_eq_getElem hj0⟩
     refine Nz (o:=o) (by simpa using hj0) ?_ (by simpa using ho) (λe he1 he2=>?_)
     ·rw[rY (by omega)];exact hj1
     ·have h5:=nL he ho
      simp only[Nat.zero_add] at h5
      exact hj2 _ (h5.1 e he1 he2)
    refine⟨λhnil=>(by rw[hnil] at hin;cases hin),λi hir=>?_⟩
    obtain⟨h1,h2,o,ho,h3⟩:=xU hir
    have hil:i<ol.length:=by simpa using h1
    rw[rY (by omega)] at h2
    have ho':ol[i]? =some o:=by simpa using ho
    have vI:∀j,(B.getD i 0).testBit j=true->rX listed j=true:=by
     intro j hj
     have h5:=nL he ho'
     simp only[Nat.zero_add] at h5
     obtain⟨_,e,e1,e2,e3⟩:=h5.2 j hj
     have h6:rX listed e.on=true:=h3 e e1 e2
     rcases e3 with e3|e3
     ·rw[<-e3];exact h6
     ·exact h.down _ _ h6 e3
    rw[I4 ho]
    obtain⟨ρ,r1,r2,r3⟩:=h.inv.rel
    have hset:rX (listed.setIfInBounds i true)=λj=>if j=i then true else rX listed j:=by funext j;exact P8 (by omega) j
    have hcount:ol.length<=fuel+((List.range ol.length).filter (rX (listed.setIfInBounds i true))).length:=by
     have e1:rX (listed.setIfInBounds i true)=λk=>(k==i)||rX listed k:=by
      rw[hset]
      funext k
      by_cases hk:k=i
      ·simp[hk]
      ·simp[hk]
     rw[e1,filter_one h2 hil]
     omega
    have Tj:Down B (rX (listed.setIfInBounds i true)):=by
     rw[hset]
     intro i' j' p1 p2
     simp only at p1⊢
     split
     ·rfl
     ·split at p1
      ·rename_i e;subst e;exact vI j' p2
      ·exact h.down i' j' p1 p2
    have hpi:∃x,pre[i]? =some x:=⟨_,List.getElem?_eq_getElem (by rw[hC.len];exact hil)⟩
    obtain⟨x,hx⟩:=hpi
    cases x with
    |some du=>
     obtain⟨d,u⟩:=du
     obtain⟨hni,⟨o2,g1,g2⟩,hnb⟩:=hC.quiet i d u hx
     rw[ho'] at g1
     cases g1
     obtain⟨g3,o3,g4,g5⟩:=zU hq hx
     rw[Nat.zero_add] at g4 g5
     rw[ho'] at g4
     cases g4
     have Z8:QS P n ol.toArray H0 o (ow B (dstsOf ol) pre [] l i) aL u:=by
      split at g5
      ·rename_i hi1
       have hp0:p=0:=by
        by_cases hp0:p=0
        ·exact hp0
        ·have:=h.NA (by omega) i hi1
         rw[h2] at this;cases this
       rw[(h.start hp0).1];exact g5
      ·exact g5 aL (by obtain⟨_,_,hr⟩:=h.ch;exact hR.has hr)
     have hmin:=D5 r3 (P9 hC h.down hx h.chain h.WA h2 vI)
     have hnext:∀x w' ρ',dG ρ' (aB H0 aL) w'->Ext ρ (aB H0 aL) w ρ' (aB H0 aL) w'->dL (bK ρ' (aB H0 aL)) ρ' w' u x->wpAnyIn (Nv Rd.r) 3 P .any ol.toArray (lift E n Q) fuel (listed.setIfInBounds i true) (a.put o.dst x) w':=by
      intro x w' ρ' q1 q2 q3
      refine ih _ p cs hC cr aL _ _ (by simpa using hs) hcount ⟨Tj,h.X8,λk c hkc=>?_,λhp j hj=>?_,h.start,h.NB,h.WA,h.Yo,h.ch,⟨?_,?_,ρ',q1,r2.trans q2,λt=>?_⟩⟩
      ·rw[hset]
       have:c≠i:=λe=>hni (e▸List.mem_of_getElem? hkc)
       simp only[this,if_false]
       exact h.chain k c hkc
      ·rw[hset]
       simp only
       split
       ·rfl
       ·exact h.NA hp j hj
      ·simp only[Act.put];split<;>simp[h.inv.size]
      ·rw[put_defers];exact h.inv.defers.step r1 q2
      ·have h7:=DN (n:=n) h.inv.size (λt=>q2.rep (r3 t)) o.dst q3 t
       rw[g2] at h7⊢
       simp only[F7,g3,if_true,upd] at h7
       have hlk:nK cr (jQ (rX (listed.setIfInBounds i true)) (gz l) pre 0) t=if t=d then u else nK cr (jQ (rX listed) (gz l) pre 0) t:=by
        have Yr:look cr d=none:=by
         cases hcr:look cr d with
         |none=>rfl
         |some v'=>
          obtain⟨k,c,oc,_,hc1,hc2,hc3⟩:=h.WA d v' hcr
          have:=hC.nodup _ _ _ _ _ ho' hc2 g2 hc3
          subst this
          exact absurd (List.mem_of_getElem? hc1) hni
        unfold nK
        by_cases ht:t=d
        ·subst ht
         rw[Yr,if_pos U]
         exact qX (uf hC) hx (by rw[Nat.zero_add,hset];simp)
        ·rw[if_neg ht]
         split
         ·rfl
         ·refine nM (λj d' u' e1 e2=>?_) U
          rw[Nat.zero_add,hset]
          simp only
          split
          ·rename_i hji
           subst hji
           rw[hx] at e1
           cases e1
           exact absurd e2.symm ht
          ·rfl
       rw[hlk]
       by_cases ht:t=d
       ·rw[if_pos ht] at h7⊢;exact h7
       ·rw[if_neg ht] at h7⊢;exact h7
     have hdo:=Z8 h.NB a w ρ h.inv.size U r1 hmin (λa' w'=>a'.defers=a.defers/\wpAnyIn (Nv Rd.r) 3 P .any ol.toArray (lift E n Q) fuel (listed.setIfInBounds i true) a' w') (lift E n Q) (λx w' ρ' u' H' q1 q2 q3 ⟨q4,q5⟩=>by
      subst q4 q5
      exact⟨put_defers _ _ _,hnext x w' ρ' q1 q2 q3⟩)
     split
     ·rename_i hw
      rw[if_pos hw] at hdo
      exact IV hdo (λc a w h=>h)
     ·rename_i hw
      rw[if_neg hw] at hdo
      exact⟨λ_ _=>trivial,hdo.2⟩
    |none=>
     have Qa:=hC.rest i hx
     obtain⟨k0,WU⟩:=List.getElem?_of_mem Qa
     have Z9:p<=k0:=by
      have e1:=h.chain k0 i WU
      rw[h2] at e1
      simpa using e1.symm
     obtain⟨rem,hrm,hr⟩:=h.ch
     have NF:i∈cs.drop p:=by
      have:(cs.drop p)[k0-p]? =some i:=by rw[List.getElem?_drop,show p+(k0-p)=k0 from by omega];exact WU
      exact List.mem_of_getElem? this
     obtain⟨_,o2,g1,g2,g3⟩:i∈rem/\_:=⟨hrm.mem_iff.2 NF,hR.step hr (hrm.mem_iff.2 NF) (λc hc=>by
      cases hb:(B.getD i 0).testBit c with
      |false=>rfl
      |true=>
       have e4:=vI _ hb
       obtain⟨k2,hk2⟩:=List.getElem?_of_mem (hrm.mem_iff.1 hc)
       rw[List.getElem?_drop] at hk2
       rw[h.chain _ _ hk2] at e4
       simp at e4
       omega)⟩
     rw[ho'] at g1
     cases g1
     -- this one comes next
     have TY:(cs.take p++i::(cs.drop p).erase i).Perm cs:=by
      have:=(List.perm_cons_erase NF).symm.append_left (cs.take p)
      rwa [List.take_append_drop] at this
     have Yt:=h.X8
     have htl:(cs.take p).length=p:=by rw[List.length_take];omega
     have hlow:∀k' c,k'<p->((cs.take p++i::(cs.drop p).erase i)[k']? =some c↔cs[k']? =some c):=λk' c hk=>by
      rw[List.getElem?_append_left (by omega),List.getElem?_take_of_lt hk]
     have hkc:(cs.take p++i::(cs.drop p).erase i)[p]? =some i:=by rw[List.getElem?_append_right (by omega),htl,Nat.sub_self];rfl
     have hdr:(cs.take p++i::(cs.drop p).erase i).drop (p+1)=(cs.drop p).erase i:=by
      rw[List.drop_append,List.drop_eq_nil_of_le (by omega),htl,show p+1-p=1 from by omega];rfl
     have ZA:=hC.perm TY
     have h':At P n Q H0 E B ol pre (cs.take p++i::(cs.drop p).erase i) k1 l R M (rX listed) p cr aL a w:=by
      refine⟨h.down,by rw[TY.length_eq];exact h.X8,λk' c Gl=>?_,h.NA,h.start,h.NB,λt u hl=>?_,λk' c oc d hk' hc1=>h.Yo k' c oc d hk' ((hlow k' c hk').1 hc1),⟨rem,hrm.trans ?_,hr⟩,h.inv⟩
      ·by_cases hk':k'<p
       ·exact h.chain k' c ((hlow k' c hk').1 Gl)
       ·rw[List.getElem?_append_right (by omega)] at Gl
        have hm:c∈i::(cs.drop p).erase i:=List.mem_of_getElem? Gl
        obtain⟨k2,hk2⟩:=List.getElem?_of_mem ((List.perm_cons_erase NF).mem_iff.2 hm)
        rw[List.getElem?_drop] at hk2
        rw[h.chain _ _ hk2,decide_eq_false (by omega),decide_eq_false hk']
      ·obtain⟨k',c,oc,e1,e2,e3,e4⟩:=h.WA t u hl
       exact⟨k',c,oc,e1,(hlow k' c e1).2 e2,e3,e4⟩
      ·have:(cs.take p++i::(cs.drop p).erase i).drop p=i::(cs.drop p).erase i:=by
        rw[List.drop_append,List.drop_eq_nil_of_le (by omega),htl,Nat.sub_self];rfl
       rw[this];exact List.perm_cons_erase NF
     have Yu:(rem.erase i).Perm ((cs.take p++i::(cs.drop p).erase i).drop (p+1)):=by rw[hdr];exact hrm.erase i
     clear h hC Yt htl hlow TY hdr
     generalize cs.take p++i::(cs.drop p).erase i=cs' at*
     have h:=h'
     clear h'
     have hC:=ZA
     have Qa:=List.mem_of_getElem? hkc
     generalize hkp:p=k at*
     have hmin:=D5 r3 (NC hC h.down h2 vI)
     have hnext:∀x w' ρ' u H',dG ρ' H' w'->Ext ρ (aB H0 aL) w ρ' H' w'->dL (bK ρ' H') ρ' w' u x->(∃Gm,H'=aB H0 Gm/\aK H0 Gm/\R (rem.erase i) (match o.dst with|some d=>(d,u)::cr|none=>cr) Gm)->wpAnyIn (Nv Rd.r) 3 P .any ol.toArray (lift E n Q) fuel (listed.setIfInBounds i true) (a.put o.dst x) w':=by
      rintro x w' ρ' u H' q1 q2 q3 ⟨Gm,rfl,q5,q6⟩
      have hfresh:∀d,o.dst=some d->∀(j d':Nat) (u':AV),pre[j]? =some (some (d',u'))->d'≠d:=by
       intro d hd j d' u' hj e
       subst e
       obtain⟨Yq,⟨oj,e1,e2⟩,_⟩:=hC.quiet j d' u' hj
       have:=hC.nodup _ _ _ _ _ e1 ho' e2 hd
       subst this
       exact Yq Qa
      refine ih _ (k+1) cs' hC (match o.dst with|some d=>(d,u)::cr|none=>cr) Gm _ _ (by simpa using hs) hcount ⟨Tj,?_,λk' c Gl=>?_,λ_ j hj=>?_,λhp=>by omega,q5,λt v hl=>?_,λk' c oc d' hk' hc1 hc2 hc3=>?_,⟨_,Yu,q6⟩,⟨?_,?_,ρ',q1,r2.trans q2,λt=>?_⟩⟩
      ·have:=(List.getElem?_eq_some_iff.1 hkc).1;omega
      ·rw[hset]
       simp only
       by_cases hci:c=i
       ·subst hci
        rw[if_pos U]
        have:k'=k:=hC.inj _ _ _ Gl hkc
        subst this;simp
       ·rw[if_neg hci,h.chain k' c Gl]
        have:k'≠k:=λe=>hci (by rw[e,hkc] at Gl;exact(Option.some.inj Gl).symm)
        have:(k'<k)=(k'<k+1):=by apply propext;omega
        simp[this]
      ·rw[hset]
       simp only
       split
       ·rfl
       ·exact vI j (hC.first i Qa j hj)
      ·cases hod:o.dst with
       |none=>
        rw[hod] at hl
        obtain⟨k',c,oc,e1,e2,e3,e4⟩:=h.WA t v hl
        exact⟨k',c,oc,by omega,e2,e3,e4⟩
       |some d=>
        rw[hod] at hl
        have hl':(if t=d then some u else look cr t)=some v:=hl
        split at hl'
        ·rename_i ht;subst ht;exact⟨k,i,o,by omega,hkc,ho',hod⟩
        ·obtain⟨k',c,oc,e1,e2,e3,e4⟩:=h.WA t v hl'
         exact⟨k',c,oc,by omega,e2,e3,e4⟩
      ·by_cases hkk:k'=k
       ·subst hkk
        rw[hkc] at hc1
        cases hc1
        rw[ho'] at hc2
        cases hc2
        rw[hc3]
        exact⟨u,by simp[look]⟩
       ·obtain⟨v,hv⟩:=h.Yo k' c oc d' (by omega) hc1 hc2 hc3
        cases hod:o.dst with
        |none=>exact⟨v,hv⟩
        |some d=>
         show∃u',(if d'=d then some u else look cr d')=some u'
         split
         ·exact⟨_,rfl⟩
         ·exact⟨v,hv⟩
      ·simp only[Act.put];split<;>simp[h.inv.size]
      ·rw[put_defers];exact h.inv.defers.step r1 q2
      ·have h7:=DN (n:=n) h.inv.size (λt=>q2.rep (r3 t)) o.dst q3 t
       have hold:jQ (rX (listed.setIfInBounds i true)) (gz l) pre 0 t=jQ (rX listed) (gz l) pre 0 t:=by
        refine nM (λj d' u' e1 e2=>?_) U
        rw[Nat.zero_add,hset]
        simp only
        split
        ·rename_i hji
         subst hji
         rw[hx] at e1
         cases e1
        ·rfl
       cases hod:o.dst with
       |none=>
        rw[hod] at h7
        simp only[F7] at h7
        unfold nK at h7⊢
        simp only[hod]
        rw[hold]
        exact h7
       |some d=>
        rw[hod] at h7
        simp only[F7,g2 d hod,if_true,upd] at h7
        unfold nK at h7⊢
        simp only[hod,look]
        by_cases ht:t=d
        ·rw[if_pos ht] at h7⊢;exact h7
        ·rw[if_neg ht] at h7⊢
         rw[hold];exact h7
     have hdo:=g3 h.NB a w ρ h.inv.size U r1 hmin (λa' w'=>a'.defers=a.defers/\wpAnyIn (Nv Rd.r) 3 P .any ol.toArray (lift E n Q) fuel (listed.setIfInBounds i true) a' w') (lift E n Q) (λx w' ρ' u' H' q1 q2 q3 q4=>⟨put_defers _ _ _,hnext x w' ρ' u' H' q1 q2 q3 q4⟩)
     split
     ·rename_i hw
      rw[if_pos hw] at hdo
      exact IV hdo (λc a w h=>h)
     ·rename_i hw
      rw[if_neg hw] at hdo
      exact⟨λ_ _=>trivial,hdo.2⟩
 have hnone:∀i,rX (Array.replicate ol.toArray.size false) i=false:=by
  intro i
  simp[rX,Array.getD]
 suffices hi1:Inv E n (nK [] (jQ (rX (Array.replicate ol.toArray.size false)) (gz l) pre 0)) (aB H0 M) a0 {w0 with drawn:=w0.drawn+1} by
  exact key _ _ 0 cs0 hC0 [] M _ _ (by simp) (by simp) ⟨λi j h=>absurd h (by rw[hnone];simp),Nat.zero_le _,λk c _=>(hnone c).trans (by simp),λh=>absurd h (by omega),λ_=>⟨rfl,rfl⟩,hd0,λt u h=>absurd h (by simp[look]),λk c o d h=>absurd h (by omega),⟨cs0,.refl _,hk⟩,hi1⟩
 obtain⟨ρ,r1,r2,r3⟩:=hi0.rel
 have hE:Ext ρ (aB H0 M) w0 ρ (aB H0 M) {w0 with drawn:=w0.drawn+1}:=⟨rfl,rfl,rfl,Nat.le_refl _,λ_ _ _=>rfl,λ_ h=> .inl h,λ_ _ h=>h⟩
 refine⟨hi0.size,hi0.defers,ρ,⟨λid ob jd=>?_,r1.apart,r1.room,r1.lt⟩,r2.trans hE,λt=>?_⟩
 ·obtain⟨v,e1,e2⟩:=r1.ob id ob jd
  exact⟨v,e1,e2.ext hE (λ_ _=>rfl)⟩
 ·have:nK [] (jQ (rX (Array.replicate ol.toArray.size false)) (gz l) pre 0) t=gz l t:=by
   unfold nK
   simp only[look]
   exact oU (λj d u _ _=>hnone _)
  rw[this]
  exact hE.rep (r3 t)
theorem UW.draws{P:Program}{ND:Nat}(hm:P.follows .mixedOrders=true)(B:List Nat)(pre:List (Option (Nat×AV)))(Nl:List (List Nat))(cs0 k1:List Nat)(h0:cs0∈Nl)(he:kR B ol 0=true)(TZ:∀cs∈Nl,jk B ol pre cs k1)
 (Yv:∀cs∈Nl,∀(a ca cb:Nat),1<=a->cs[a+1]? =some ca->cs[a]? =some cb->(B.getD ca 0).testBit cb=true)
 (hhead:∀cs∈Nl,∀c∈cs,(∃cs'∈Nl,cs'[0]? =some c)\/∃c'∈cs,(B.getD c 0).testBit c'=true)
 (hq:I P n ol H0 M B k1 pre l keep pre 0) (hk:∀cs∈Nl,CH P n ol Q H0 B pre l keep cs [] M):UW P n Q H0 (.region ND ol.toArray true) l M:=by
 have hmem:∀cs∈Nl,cs.Perm cs0:=λcs hcs=>(List.perm_ext_iff_of_nodup (TZ cs hcs).nd (TZ cs0 h0).nd).2 λc=>by
  have aux:∀c1∈Nl,∀c2∈Nl,c∈c1->c∈c2:=λc1 h1 c2 h2 hc=>by
   have hcl:=(TZ c1 h1).lt c hc
   obtain⟨y,hy⟩:∃y,pre[c]? =some y:=⟨_,List.getElem?_eq_getElem (by rw[(TZ c1 h1).len];exact hcl)⟩
   cases y with
   |some du=>exact absurd hc ((TZ c1 h1).quiet c du.1 du.2 hy).1
   |none=>exact(TZ c2 h2).rest c hy
  exact⟨aux cs hcs cs0 h0,aux cs0 h0 cs hcs⟩
 refine UW.Ti (R:=λrem cr ob=>∃cs∈Nl,∃p,rem.Perm (cs.drop p)/\(p=0->cr=[]/\ob=M)/\CH P n ol Q H0 B pre l keep (cs.drop p) cr ob) hm B pre cs0 k1 he (TZ cs0 h0) ⟨?_,?_,?_⟩ hq ⟨cs0,h0,0,.refl _,λ_=>⟨rfl,rfl⟩,hk cs0 h0⟩
 ·rintro rem cr ob ⟨cs,_,p,_,_,h⟩;exact h.has
 ·rintro cr ob ⟨cs,_,p,hp,_,h⟩
  have e:cs.drop p=[]:=hp.symm.eq_nil
  rw[e] at h
  exact h.2
 ·rintro rem cr ob i ⟨cs,hcs,p,hp,hz,h⟩ hi hno
  have key:∀cs'∈Nl,∀p,rem.Perm (cs'.drop p)->CH P n ol Q H0 B pre l keep (cs'.drop p) cr ob->cs'[p]? =some i->∃o,ol[i]? =some o/\(∀d,o.dst=some d->d<n)/\(aK H0 ob->Does P n ol.toArray o (gz (ow B (dstsOf ol) pre cr l i)) (aB H0 ob) (λu H'=>∃aL,H'=aB H0 aL/\aK H0 aL/\
   ∃cs∈Nl,∃p,(rem.erase i).Perm (cs.drop p)/\(p=0->(match o.dst with|some d=>(d,u)::cr|none=>cr)=[]/\aL=M)/\CH P n ol Q H0 B pre l keep (cs.drop p) (match o.dst with|some d=>(d,u)::cr|none=>cr) aL)):=by
   intro cs' hcs' p hp h hpi
   have hdrop:cs'.drop p=i::cs'.drop (p+1):=by
    have hlt:=(List.getElem?_eq_some_iff.1 hpi).1
    rw[List.drop_eq_getElem_cons hlt];congr 1;exact(List.getElem?_eq_some_iff.1 hpi).2
   rw[hdrop] at h hp
   obtain⟨_,o,g1,g2,g3⟩:=h
   refine⟨o,g1,g2,λhd=>(g3 hd).mono ?_⟩
   rintro u H' ⟨aL,e1,e2,e3⟩
   refine⟨aL,e1,e2,cs',hcs',p+1,?_,λh=>by omega,e3⟩
   have:=hp.erase i
   rwa [List.erase_cons_head] at this
  obtain⟨k,hk'⟩:=List.getElem?_of_mem (hp.mem_iff.1 hi)
  rw[List.getElem?_drop] at hk'
  by_cases hk0:k=0
  ·subst hk0;exact key cs hcs p hp h hk'
  ·by_cases hp0:p=0
   ·subst hp0
    obtain⟨rfl,rfl⟩:=hz rfl
    rcases hhead cs hcs i (List.mem_of_getElem? hk') with ⟨cs',hcs',hh⟩|⟨c',hc',hb⟩
    ·exact key cs' hcs' 0 (by rw[List.drop_zero] at hp⊢;exact hp.trans ((hmem cs hcs).trans (hmem cs' hcs').symm)) (hk cs' hcs') hh
    ·rw[List.drop_zero] at hp
     rw[hno c' (hp.mem_iff.2 hc')] at hb;cases hb
   ·exfalso
    have hlt:=(List.getElem?_eq_some_iff.1 hk').1
    have e2:cs[p+k-1]? =some cs[p+k-1]:=List.getElem?_eq_getElem (by omega)
    have e3:=Yv cs hcs (p+k-1) i _ (by omega) (by rw[show p+k-1+1=p+k from by omega];exact hk') e2
    rw[hno _ (hp.mem_iff.2 (List.mem_of_getElem? (i:=k-1) (by rw[List.getElem?_drop,show p+(k-1)=p+k-1 from by omega];exact e2)))] at e3
    cases e3
theorem UW.draw{P:Program}{ND:Nat}(hm:P.follows .mixedOrders=true)(B:List Nat)(pre:List (Option (Nat×AV)))(cs k1:List Nat)(he:kR B ol 0=true)(hch:pJ B (pre.map λo=>o.map (·.1)) cs k1 (dstsOf ol)=true)
 (hq:I P n ol H0 M B k1 pre l keep pre 0) (hk:CH P n ol Q H0 B pre l keep cs [] M):UW P n Q H0 (.region ND ol.toArray true) l M:=by
 refine UW.draws hm B pre [cs] cs k1 (by simp) he (λc hc=>by rw[List.mem_singleton.1 hc];exact jk.of he hch) (λc hc a ca cb _ h1 h2=>by rw[List.mem_singleton.1 hc] at h1 h2;exact jk.all hch _ _ _ _ h1 h2 (by omega)) (λc hc i hi=>?_) hq (λc hc=>by rw[List.mem_singleton.1 hc];exact hk)
 cases List.mem_singleton.1 hc
 obtain⟨a,ha⟩:=List.getElem?_of_mem hi
 cases a with
 |zero=>exact .inl ⟨cs,by simp,ha⟩
 |succ a=>
  have hlt:=(List.getElem?_eq_some_iff.1 ha).1
  have e0:=List.getElem?_eq_getElem (l:=cs) (i:=0) (by omega)
  exact .inr ⟨_,List.mem_of_getElem? e0,jk.all hch (a+1) 0 i _ ha e0 (by omega)⟩
end
end
end Go.gW
end
