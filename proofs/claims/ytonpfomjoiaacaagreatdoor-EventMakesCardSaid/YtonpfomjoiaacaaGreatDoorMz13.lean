/- A part of the proof. -/
import Derived.Test.YtonpfomjoiaacaaGreatDoorMz12
set_option maxRecDepth 100000
set_option maxHeartbeats 4000000
set_option linter.unusedSectionVars false
set_option linter.unusedVariables false
set_option linter.unusedSimpArgs false
section
namespace Go.fT
open Go Go.RowKit
section
variable [Rd]
def nH:Hp:=λ_=>none
def qh:AV->Bool
 | .v _=>true
 |_=>false
def vS:Ob->Bool
 | .box _ l=>l.all qh
 | .row _ _ rows=>rows.flatten.all qh
 | .iter _ _=>true
 | .jA _ _ _ _=>false
 | .raw _ _=>true
 | .mp _=>false
 | .yE _ _ _=>false
def Dg:AV->Bool
 | .v _=>true
 | .agg l=>l.all qh
 | .kM l=>l.all λu=>match u with
   | .v _=>true
   | .agg l=>l.all qh
   |_=>false
 |_=>false
section
variable {ok ok':Nat->Prop} {ρ ρ':gz} {w w':World} {u:AV} {x:Value}
theorem Gp(hu:qh u=true)(h:dU ok ρ w u x):dU ok' ρ' w' u x:=by
 cases u with
 |v y=>rw[aS h];exact .v y
 |_=>simp[qh] at hu
theorem wR{l:List AV}(hl:l.all qh=true)(h:dU ok ρ w (.agg l) x):dU ok' ρ' w' (.agg l) x:=by
 cases h with
 |agg _ vs hlen hr=>exact .agg _ vs hlen λj u y h1 h2=>Gp (List.all_eq_true.1 hl u (List.mem_of_getElem? h1)) (hr j u y h1 h2)
theorem Ns(hu:Dg u=true)(h:dU ok ρ w u x):dU ok' ρ' w' u x:=by
 cases u with
 |v y=>rw[aS h];exact .v y
 |agg l=>exact wR hu h
 |kM l=>
  cases h with
  |kM _ vs hlen hr=>
   refine .kM _ vs hlen λj u y h1 h2=>?_
   have h3:=List.all_eq_true.1 hu u (List.mem_of_getElem? h1)
   have h4:=hr j u y h1 h2
   cases u with
   |v y=>rw[aS h4];exact .v _
   |agg l=>exact wR h3 h4
   |_=>simp at h3
 |_=>simp[Dg] at hu
theorem Bp{us:List AV}{xs:List Value}(hl:us.all qh=true)(h:aX ok ρ w us xs):aX ok' ρ' w' us xs:=
 ⟨h.1,λj u y h1 h2=>⟨Gp (List.all_eq_true.1 hl u (List.mem_of_getElem? h1)) (h.2 j u y h1 h2).1,(h.2 j u y h1 h2).2⟩⟩
theorem nJ.plain{v:Value}{ob:Ob}(hp:vS ob=true)(hok:∀g x,ob=.raw g x->ok' g)(h:nJ ok ρ w v ob):nJ ok' ρ' w v ob:=by
 cases ob with
 |box t l=>obtain⟨g,vals,rfl,hg,hc⟩:=h;exact⟨g,vals,rfl,hg,Bp hp hc⟩
 |row e sz rows=>obtain⟨h0,inner,ho,hl,hc⟩:=h;exact⟨h0,inner,ho,hl,Bp hp hc⟩
 |iter s pos=>exact h
 |jA _ _ _ _=>simp[vS] at hp
 |raw g x=>exact⟨h.1,hok g x U,h.2.2⟩
 |mp es=>simp[vS] at hp
 |yE _ _ _=>simp[vS] at hp
end
theorem au.borrow{P:Program}{f:Nat}{us lT:List AV}{r:AV}{H H1:Hp}(hs:Sub H1 H)(hp:∀id ob,H1 id=some ob->vS ob=true)(hl:lT.length=us.length)(hu:∀(j:Nat) u u',us[j]? =some u->lT[j]? =some u'->bL H u H1 u')
 (h:au P f lT H1 (bz H1 r)) (hr:Dg r=true):au P f us H (bz H r):=by
 refine⟨h.1,λρ w vals hrel Gf=>?_⟩
 have Z4:KI (bF ρ H1) ρ w lT vals:=⟨by rw[hl];exact Gf.1,λj u x hj hx=>by
  have hlt:j<us.length:=by rw[<-hl];exact(List.getElem?_eq_some_iff.1 hj).1
  exact hu j _ u (List.getElem?_eq_getElem hlt) hj ρ w x hrel (Gf.2 j _ x (List.getElem?_eq_getElem hlt) hx)⟩
 refine(h.2 ρ w vals (hrel.drop hs) Z4).mono ?_
 rintro e w' ⟨x,ρ',u,H',rfl,h1,h2,h3,rfl,rfl⟩
 have hown:∀k,Own ρ' H k->Own ρ H k:=by
  rintro k ⟨id,ob,v,a,b,c⟩
  obtain⟨v0,hv0,_⟩:=hrel.ob id ob a
  rw[h2.KF id v0 hv0] at b
  cases b
  exact⟨id,ob,_,a,hv0,c⟩
 have Dh:Ext ρ H w ρ' H w':=⟨h2.os,h2.tape,h2.output,h2.size,λk hk hn=>h2.block k hk (λho=>hn (Hz hs ho)),λk ho=> .inl (hown k ho),h2.KF⟩
 refine⟨x,ρ',u,H,rfl,⟨?_,?_,h1.room,h1.lt⟩,Dh,Ns hr h3,rfl,rfl⟩
 ·intro id ob hid
  obtain⟨v0,hv0,iD⟩:=hrel.ob id ob hid
  refine⟨v0,h2.KF id v0 hv0,?_⟩
  cases h4:H' id with
  |some xc=>
   have:=hs id xc h4
   rw[hid] at this
   cases this
   obtain⟨v1,hv1,hob1⟩:=h1.ob id ob h4
   rw[h2.KF id v0 hv0] at hv1
   cases hv1
   exact hob1.plain (hp id ob h4) (λg x e=>by
    subst e
    have hlt:g<w.heap.size:=(Array.getElem?_eq_some_iff.1 iD.2.2.1).1
    exactλho=>(Dh.own g ho).elim iD.2.1 (λh1=>by omega))
  |none=>
   refine iD.ext Dh λk hk=>h2.block k (hrel.lt id v0 k hv0 hk) ?_
   rintro⟨j,obj,vj,a,b,c⟩
   have:=hrel.apart id j ob obj v0 vj k hid (hs j obj a) hv0 b hk c
   subst this
   rw[h4] at a
   cases a
 ·intro id id' ob xc v v' k a b c d e1 e2
  obtain⟨v0,hv0,_⟩:=hrel.ob id ob a
  obtain⟨v1,hv1,_⟩:=hrel.ob id' xc b
  rw[h2.KF id v0 hv0] at c
  rw[h2.KF id' v1 hv1] at d
  cases c
  cases d
  exact hrel.apart id id' ob xc _ _ k a b hv0 hv1 e1 e2
section
variable {P:Program} {n:Nat} {ops:Array Oper} {H0:Hp} {l:List (Nat×AV)} {I keep:List (Nat×Ob)} {us lT bS:List AV} {u r:AV} {f:Nat} {cc:Operand} {args:Array Operand} {at_:Array TypeId} {dst:Option Nat} {ty:TypeId} {ps:String} {af:Array Edge}
inductive Di (I keep:List (Nat×Ob)):List AV->List AV->Prop
 |nil:Di I keep [] []
 |keep {u:AV} {us lT:List AV} (h:Di I keep us lT):Di I keep (u::us) (u::lT)
 |own {k id off len e sz:Nat} {rows rs:List (List AV)} {us lT:List AV} (h2:I[k]? =some (id,.row e sz rows)) (hle:off+len<=rows.length) (hr:(rows.drop off).take len=rs) (h:Di I keep us lT):Di I keep (.own id off len sz::us) (.sl rs::lT)
 |agg {l l' us lT:List AV} (h1:Di I keep l l') (h:Di I keep us lT):Di I keep (.agg l::us) (.agg l'::lT)
theorem yU{i:Nat}{ob:Ob}:∀{r:List (Nat×Ob)},aC nH r i=some ob->(i,ob)∈r
 |[],h=>by cases h
 |(j,o)::r,h=>by
  by_cases hj:i=j
  ·subst hj
   have:aC nH ((i,o)::r) i=some o:=by show set _ _ _ _=_;simp
   rw[this] at h;cases h;simp
  ·have:aC nH ((j,o)::r) i=aC nH r i:=by show set _ _ _ _=_;rw[dM _ _ hj]
   rw[this] at h
   exact List.mem_cons_of_mem _ (yU h)
def Nt:Ob->Bool
 | .row _ _ _=>false
 |_=>true
theorem Di.turns(hd:aM H0 I)(hs:Sub (aC nH keep) (aC H0 I))(hnr:(keep.all λp=>Nt p.2)=true)(h:Di I keep us lT):lT.length=us.length/\∀(j:Nat) u u',us[j]? =some u->lT[j]? =some u'->bL (aC H0 I) u (aC nH keep) u':=by
 induction h with
 |nil=>exact⟨rfl,λj u u' h=>by simp at h⟩
 |keep h ih=>
  refine⟨by simp[ih.1],λj u u' h1 h2=>?_⟩
  cases j with
  |zero=>simp at h1 h2;subst h1 h2;exact bL.drop hs _
  |succ j=>exact ih.2 j u u' (by simpa using h1) (by simpa using h2)
 | @own k id off len e sz rows rs us lT h2 hle hr h ih=>
   have hn:aC nH keep id=none:=by
    cases h5:aC nH keep id with
    |none=>rfl
    |some ob=>
     have h6:=hs id ob h5
     rw[hd.at_ h2] at h6
     cases h6
     have:=List.all_eq_true.1 hnr _ (yU h5)
     simp[Nt] at this
   refine⟨by simp[ih.1],λj u u' h3 h4=>?_⟩
   cases j with
   |zero=>
    simp at h3 h4;subst h3 h4 hr
    exact bL.own hs (hd.at_ h2) hn hle U (λi cs cs' h1 h2=>by
     rw[h1] at h2;cases h2
     exact⟨rfl,λj u u' h3 h4=>by rw[h3] at h4;cases h4;exact bL.drop hs u⟩)
   |succ j=>exact ih.2 j u u' (by simpa using h3) (by simpa using h4)
 |agg h1 h ih1 ih=>
  refine⟨by simp[ih.1],λj u u' h3 h4=>?_⟩
  cases j with
  |zero=>simp at h3 h4;subst h3 h4;exact bL.agg ih1.1 ih1.2
  |succ j=>exact ih.2 j u u' (by simpa using h3) (by simpa using h4)
theorem aM.Zv{H:Hp}:∀{r:List (Nat×Ob)},aM H r->aM nH r
 |[],_=> .nil
 |(i,ob)::r,h=>by
  cases h with
  |cons h1 h2=>exact .cons (rM U (oh h1).2) h2.Zv
theorem Tj(hd:aM H0 I)(hk:keep.Sublist I):Sub (aC nH keep) (aC H0 I):=λi ob h=>by
 obtain⟨k,hk2⟩:=List.getElem?_of_mem (hk.subset (yU h))
 exact hd.at_ hk2
theorem Z.cbw(keep:List (Nat×Ob))(hkp:keep.Sublist I)(hpl:(keep.all λp=>vS p.2)=true)(hc:aT l cc=some (.gN f bS))(ha:gW l args.toList=some us)(hb:Di I keep (us++bS) lT)(h:aM nH keep->au P f lT (aC nH keep) (bz (aC nH keep) r))(hr:Dg r=true:=by rfl)(hnr:(keep.all λp=>Nt p.2)=true:=by rfl):
 QS P n ops H0 ⟨dst,.call {callee:=.value cc,args:=args,argTypes:=at_},ty,ps,af,none⟩ l I r:=
 QS.call U U hc ha λhd=>by
  have hs:=Tj hd hkp
  obtain⟨h1,h2⟩:=hb.turns hd hs hnr
  exact au.borrow hs (λi ob hi=>List.all_eq_true.1 hpl _ (yU hi)) h1 h2 (h ((hd.sub hkp).Zv)) hr
end
inductive Dj:List (Nat×Ob)->List (Nat×Ob)->List (Nat×Ob)->Prop
 |nil {I:List (Nat×Ob)}:Dj I [] I
 |cons {I nA FZ:List (Nat×Ob)} {p:Nat×Ob} (k:Nat) (h:I[k]? =some p) (t:Dj (I.eraseIdx k) nA FZ):Dj I (p::nA) FZ
theorem Dj.split{H0:Hp}{I nA FZ:List (Nat×Ob)}(h:Dj I nA FZ):aM H0 I->aM H0 FZ/\aM (aC H0 FZ) nA/\aC H0 I=aC (aC H0 FZ) nA:=by
 induction h with
 |nil=>exactλhd=>⟨hd,.nil,rfl⟩
 | @cons I nA FZ p k h t ih=>
   obtain⟨i,ob⟩:=p
   intro hd
   obtain⟨e1,e2⟩:=hd.kill h
   obtain⟨a,b,c⟩:=ih e2
   have h3:aC (aC H0 FZ) nA i=none:=by rw[<-c,<-e1];simp
   refine⟨a,.cons h3 b,?_⟩
   have h4:=hd.at_ h
   funext j
   by_cases hj:j=i
   ·subst hj
    rw[h4]
    show some ob=set _ _ _ _
    simp
   ·show _=set _ _ _ _
    rw[dM _ _ hj,<-c,<-e1,dM _ _ hj]
section
variable {P:Program} {n:Nat} {ops:Array Oper} {H0:Hp} {l:List (Nat×AV)} {I nA FZ:List (Nat×Ob)} {us bS:List AV} {f:Nat} {cc:Operand} {args:Array Operand} {at_:Array TypeId} {dst:Option Nat} {ty:TypeId} {ps:String} {af:Array Edge} {K:AV->List (Nat×Ob)->Prop} {R:AV->List (Nat×Ob)->Prop}
theorem D.co(hpk:Dj I nA FZ)(hc:aT l cc=some (.gN f bS))(ha:gW l args.toList=some us)(h:∀G,aM G nA->au P f (us++bS) (aC G nA) (λu H'=>∃news,aM G news/\H'=aC G news/\R u news))(hk:∀u news,R u news->K u (news++FZ)):
 DS P n ops H0 ⟨dst,.call {callee:=.value cc,args:=args,argTypes:=at_},ty,ps,af,none⟩ l I K:=λay=>by
 obtain⟨a,b,c⟩:=hpk.split ay
 refine Does.call U U (aG hc) ?_
 rw[jC ha,c]
 refine(h (aC H0 FZ) b).mono λu H' ⟨news,h1,h2,h3⟩=>⟨news++FZ,by rw[h2,qP],aM.app a h1,hk u news h3⟩
end
theorem Ig{sz m m':Nat}{rows:List (List AV)}(h:∀cs∈rows,cs.length=sz):∀cs∈(rows.take m').drop m,cs.length=sz:=λcs hcs=>h cs (List.mem_of_mem_take (List.mem_of_mem_drop hcs))
def F4{α:Type}(H0:Hp)(L:α->List (Nat×AV))(O:α->List (Nat×Ob))(J:α->Prop)(μ:α->Nat)(m:Nat):Sl->Hp->Prop:=λT H=>
 ∃a',J a'/\μ a'<m/\aM H0 (O a')/\Sub (aC H0 (O a')) H/\∀t,bL H (T t) (aC H0 (O a')) (fI (L a') t)
section
variable {P:Program} {n:Nat} {Q:qH->Sl->Hp->Prop} {H0:Hp} {l:List (Nat×AV)} {I:List (Nat×Ob)} {c:Code} {α:Type}
theorem S.loop(L:α->List (Nat×AV))(O:α->List (Nat×Ob))(J:α->Prop)(μ:α->Nat)(a0:α)(h0:J a0)(hl:QC l (L a0))(ho:(O a0).Sublist I)
 (round:∀a,J a->UW P n (lS (F4 H0 L O J μ (μ a)) Q) H0 c (L a) (O a)):UW P n Q H0 (.loop c) l I:=by
 refine UW.keep (L a0) (O a0) hl ho λhd=>?_
 refine AW.loop (λm T H=>∃a,J a/\μ a=m/\aM H0 (O a)/\Sub (aC H0 (O a)) H/\∀t,bL H (T t) (aC H0 (O a)) (fI (L a) t)) (μ a0) ⟨a0,h0,rfl,hd,λ_ _ h=>h,λt=>bL.drop (λ_ _ h=>h) _⟩ ?_
 rintro m T H ⟨a,hJ,rfl,hd',hs,ht⟩
 refine AW.turn hs ht ?_
 refine(round a hJ hd').mono ?_
 intro e T' H' hq
 cases e with
 |normal=>obtain⟨a',h1,h2,h3,h4,h5⟩:=hq;exact⟨μ a',h2,a',h1,rfl,h3,h4,h5⟩
 |exit id=>exact hq
 |goto l=>exact hq
 |ret=>exact hq
theorem S.back{L:α->List (Nat×AV)}{O:α->List (Nat×Ob)}{J:α->Prop}{μ:α->Nat}{m:Nat}(a':α)(hl:QC l (L a'))(ho:(O a').Sublist I)(hJ:J a')(hm:μ a'<m):UQ (lS (F4 H0 L O J μ m) Q) H0 .normal l I:=λhd=>by
 have hd':=hd.sub ho
 have hs:=fU hd hd' (λp hp=>ho.subset hp)
 exact⟨a',hJ,hm,hd',hs,vM hl hs⟩
def Z5(H0:Hp)(L:List (Nat×AV))(O:List (Nat×Ob))(J:Prop):Sl->Hp->Prop:=λT H=>
 J/\aM H0 O/\Sub (aC H0 O) H/\∀t,bL H (T t) (aC H0 O) (fI L t)
theorem S.cut{c2:Code}(L:List (Nat×AV))(O:List (Nat×Ob))(J:Prop)(hx:UW P n (lS (Z5 H0 L O J) Q) H0 c l I)(hy:J->UW P n Q H0 c2 L O):UW P n Q H0 (.seq c c2) l I:=λhd=>by
 refine AW.seq ((hx hd).mono ?_)
 intro e T' H' hq
 cases e with
 |normal=>obtain⟨hj,h3,h4,h5⟩:=hq;exact AW.turn h4 h5 (hy hj h3)
 |exit id=>exact hq
 |goto l=>exact hq
 |ret=>exact hq
theorem S.fin{L:List (Nat×AV)}{O:List (Nat×Ob)}{J:Prop}(hl:QC l L)(ho:O.Sublist I)(hj:J):UQ (lS (Z5 H0 L O J) Q) H0 .normal l I:=λhd=>by
 have hd':=hd.sub ho
 have hs:=fU hd hd' (λp hp=>ho.subset hp)
 exact⟨hj,hd',hs,vM hl hs⟩
def Tk{α:Type}(H0:Hp)(L:α->List (Nat×AV))(O:α->List (Nat×Ob))(J:α->Prop):Sl->Hp->Prop:=λT H=>∃a,Z5 H0 (L a) (O a) (J a) T H
theorem S.Vz{c2:Code}(L:α->List (Nat×AV))(O:α->List (Nat×Ob))(J:α->Prop)(hx:UW P n (lS (Tk H0 L O J) Q) H0 c l I)(hy:∀a,J a->UW P n Q H0 c2 (L a) (O a)):UW P n Q H0 (.seq c c2) l I:=λhd=>by
 refine AW.seq ((hx hd).mono ?_)
 intro e T' H' hq
 cases e with
 |normal=>obtain⟨a,hj,h3,h4,h5⟩:=hq;exact AW.turn h4 h5 (hy a hj h3)
 |exit id=>exact hq
 |goto l=>exact hq
 |ret=>exact hq
theorem S.qQ{L:α->List (Nat×AV)}{O:α->List (Nat×Ob)}{J:α->Prop}(a:α)(hl:QC l (L a))(ho:(O a).Sublist I)(hj:J a):UQ (lS (Tk H0 L O J) Q) H0 .normal l I:=λhd=>⟨a,S.fin (Q:=Q) hl ho hj hd⟩
end
section
variable {P:Program} {n:Nat} {Q:qH->Sl->Hp->Prop} {H0:Hp} {l:List (Nat×AV)} {I:List (Nat×Ob)} {c:Code} {ops:Array Oper} {rest:List Oper} {id k e:Nat} {cells cells':List AV}
theorem dN.Z6{ρ:gz}{w:World}(ay:aM H0 I)(h2:I[k]? =some (id,.box e cells))(h1:dN ρ (aC H0 I) w)(hl:cells'.length=cells.length)
 (hc:∀(j:Nat) (u u':AV) (x:Value),cells[j]? =some u->cells'[j]? =some u'->dU (bF ρ (aC H0 I)) ρ w u x->dU (bF ρ (aC H0 I)) ρ w u' x):
 bF ρ (aC H0 I)=bF ρ (aC H0 (I.set k (id,.box e cells')))/\dN ρ (aC H0 (I.set k (id,.box e cells'))) w:=by
 have hs:=(ay.jF (.box e cells') h2).1
 have hat:=ay.at_ h2
 have hdom:∀i,(aC H0 I i).isSome=(aC H0 (I.set k (id,.box e cells')) i).isSome:=by
  intro i
  rw[<-hs]
  by_cases hj:i=id
  ·subst hj;rw[set_self,hat];rfl
  ·rw[dM _ _ hj]
 have hok:=KX (ρ:=ρ) hdom
 refine⟨hok,λid' ob iD=>?_,λi i' o o' v v' k' q1 q2 q3 q4 q5 q6=>?_,h1.room,h1.lt⟩
 ·rw[<-hok]
  rw[<-hs] at iD
  by_cases hj:id'=id
  ·subst hj
   rw[set_self] at iD
   cases iD
   obtain⟨v,q1,g,vals,q2,q3,q4⟩:=h1.ob _ _ hat
   refine⟨v,q1,g,vals,q2,q3,by rw[hl];exact q4.1,λj u x hu hx=>?_⟩
   obtain⟨u0,hu0⟩:∃u0,cells[j]? =some u0:=⟨_,List.getElem?_eq_getElem (by have:=(List.getElem?_eq_some_iff.1 hu).1;omega)⟩
   have:=q4.2 j u0 x hu0 hx
   exact⟨hc j u0 u x hu0 hu this.1,this.2⟩
  ·rw[dM _ _ hj] at iD
   exact h1.ob _ _ iD
 ·have hx:∀{i:Nat} {o:Ob},aC H0 (I.set k (id,.box e cells')) i=some o->∃o',aC H0 I i=some o':=by
   intro i o h
   have h4:=hdom i
   rw[h] at h4
   cases h5:aC H0 I i with
   |none=>rw[h5] at h4;cases h4
   |some o'=>exact⟨o',rfl⟩
  obtain⟨p1,p2⟩:=hx q1
  obtain⟨p3,p4⟩:=hx q2
  exact h1.apart i i' _ _ v v' k' p2 p4 q3 q4 q5 q6
theorem Bq{E:SF}{a:Act}{w:World}{sz:Nat}(m e2:Nat)(hz:0<sz)(ay:aM H0 I)(h2:I[k]? =some (id,.box e cells))(hm:cells[m]? =some (.v (.slice none 0 0)))(hi:Inv E n (fI l) (aC H0 I) a w):
 ∃jQ,aC H0 I jQ=none/\Inv E n (fI l) (aC H0 ((jQ,.row e2 sz [])::I.set k (id,.box e (cells.set m (.own jQ 0 0 sz))))) a w:=by
 obtain⟨ρ,h1,h2',h3⟩:=hi.rel
 obtain⟨jQ,ρ',e1,e2',e3,e4,e5⟩:=h1.new (w':=w) (.slice none 0 0) (.row e2 sz []) (Below.refl _ _) (λk hk=>by cases hk) (λρ' H' e'=>⟨hz,[],⟨by simp,.inl ⟨rfl,rfl⟩⟩,by simp,gD⟩)
 have hd2:aM H0 ((jQ,.row e2 sz [])::I):=.cons e2' ay
 obtain⟨hok,hr⟩:=dN.Z6 (cells':=cells.set m (.own jQ 0 0 sz)) hd2 (k:=k+1) (by simpa using h2) (by exact e4) (by simp) (λj u u' x hu hu' hrep=>by
  by_cases hj:j=m
  ·subst hj
   rw[hm] at hu;cases hu
   have:u'=.own jQ 0 0 sz:=by
    rw[List.getElem?_set_self (List.getElem?_eq_some_iff.1 hm).1] at hu'
    exact(Option.some.inj hu').symm
   subst this
   rw[aS hrep]
   exact .lW jQ sz e3
  ·rw[List.getElem?_set_ne (λh=>hj h.symm)] at hu'
   rw[hu] at hu';cases hu';exact hrep)
 have Dh:=h2'.trans e5
 refine⟨jQ,e2',hi.size,hi.defers,ρ',?_,⟨Dh.os,Dh.tape,Dh.output,Dh.size,Dh.block,λk' ho=>Dh.own k' ?_,Dh.KF⟩,λt=>?_⟩
 ·exact hr
 ·have:¬bF ρ' (aC H0 ((jQ,.row e2 sz [])::I.set k (id,.box e (cells.set m (.own jQ 0 0 sz))))) k':=λh=>h ho
  rw[show aC H0 ((jQ,.row e2 sz [])::I.set k (id,.box e (cells.set m (.own jQ 0 0 sz))))=aC H0 (((jQ,.row e2 sz [])::I).set (k+1) (id,.box e (cells.set m (.own jQ 0 0 sz)))) from rfl,<-hok] at this
  exact Classical.not_not.1 this
 ·have:=e5.rep (h3 t)
  rw[show aC H0 ((jQ,.row e2 sz [])::I.set k (id,.box e (cells.set m (.own jQ 0 0 sz))))=aC H0 (((jQ,.row e2 sz [])::I).set (k+1) (id,.box e (cells.set m (.own jQ 0 0 sz)))) from rfl,<-hok]
  exact this
theorem US.qi{sz:Nat}(k m e2:Nat)(hz:0<sz)(h2:I[k]? =some (id,.box e cells))(hm:cells[m]? =some (.v (.slice none 0 0)))(hk:∀jQ,US P n ops Q H0 rest l ((jQ,.row e2 sz [])::I.set k (id,.box e (cells.set m (.own jQ 0 0 sz))))):US P n ops Q H0 rest l I:=by
 intro hd E a w hi
 obtain⟨jQ,h1,h3⟩:=Bq m e2 hz hd h2 hm hi
 have hd2:aM H0 ((jQ,.row e2 sz [])::I):=.cons h1 hd
 exact hk jQ (hd2.jF (k:=k+1) (.box e (cells.set m (.own jQ 0 0 sz))) (by simpa using h2)).2 E a w h3
theorem UW.qi{sz:Nat}(k m e2:Nat)(hz:0<sz)(h2:I[k]? =some (id,.box e cells))(hm:cells[m]? =some (.v (.slice none 0 0)))(hk:∀jQ,UW P n Q H0 c l ((jQ,.row e2 sz [])::I.set k (id,.box e (cells.set m (.own jQ 0 0 sz))))):UW P n Q H0 c l I:=by
 intro hd E a w hi
 obtain⟨jQ,h1,h3⟩:=Bq m e2 hz hd h2 hm hi
 have hd2:aM H0 ((jQ,.row e2 sz [])::I):=.cons h1 hd
 exact hk jQ (hd2.jF (k:=k+1) (.box e (cells.set m (.own jQ 0 0 sz))) (by simpa using h2)).2 E a w h3
theorem US.uH(d m kr:Nat){us rs:List AV}{off len e2 sz idr:Nat}{rows rws:List (List AV)}(hl:look l d=some (.agg us))(hm:us[m]? =some (.own idr off len sz))(h2:I[kr]? =some (idr,.row e2 sz rows))(hle:off+len<=rows.length)(hr:(rows.drop off).take len=rws)(hu:kP (us.set m (.sl rws))=rs)
 (hk:US P n ops Q H0 rest ((d,.agg rs)::l) (I.eraseIdx kr)):US P n ops Q H0 rest l I:=by
 intro hd
 obtain⟨e1,e3⟩:=hd.kill h2
 have hs:Sub (aC H0 (I.eraseIdx kr)) (aC H0 I):=fU hd e3 (λp hp=>List.mem_of_mem_eraseIdx hp)
 refine uo.turn hs (λt=>?_) (hk e3)
 unfold fI
 simp only[look]
 by_cases ht:t=d
 ·subst ht
  rw[hl,if_pos U,<-hu,uE]
  refine bL.agg (by simp) λj u u' h3 h4=>?_
  rw[List.getElem?_map] at h4
  by_cases hj:j=m
  ·subst hj
   rw[hm] at h3;cases h3
   rw[List.getElem?_set_self (List.getElem?_eq_some_iff.1 hm).1] at h4
   cases h4
   subst hr
   exact bL.own hs (hd.at_ h2) (by rw[<-e1];simp) hle U (λi cs cs' h1 h2=>by
    rw[h1] at h2;cases h2
    exact⟨rfl,λj u u' h3 h4=>by rw[h3] at h4;cases h4;exact bL.drop hs u⟩)
  ·rw[List.getElem?_set_ne (λh=>hj h.symm),h3] at h4
   cases h4
   exactλρ w x hh hx=>Ag (bL.drop hs u ρ w x hh hx)
 ·rw[if_neg ht];exact bL.drop hs _
end
end
end Go.fT
end
