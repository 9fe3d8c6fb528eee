/- A part of the proof. -/
import Derived.Test.YtonpfomjoiaacaaGreatDoorMw15
import Derived.Laws.MakeOwn
set_option maxRecDepth 100000
set_option maxHeartbeats 4000000
set_option linter.unusedSectionVars false
set_option linter.unusedVariables false
set_option linter.unusedSimpArgs false
section
namespace Go.iG
open Go Go.RowKit
theorem PW{r:Option Nat}{m m':Nat}{P:Program}{c:Code}{Q:Exit->Act->World->Prop}{a:Act}{w:World}(h:c.wpIn (Mw r) m P Q a w):c.wpIn (Mw r) m' P Q a w:=
 λb k cs h1 h2 _=>h b k cs h1 h2 (room_wide _)
def nY:Ob->Bool
 | .iter _ _=>false
 | .mp _=>false
 | .Ah _ _ _=>false
 |_=>true
structure Iter(P:Program){α:Type}(gf:Nat)(lb:Array Value)(S Sp:List α->Prop)(N:Nat)(ρ:ik)(H:Hp)(w:World)(VB:α->AV)(encs:α->Value)(Kp:World->World->Prop):Prop where
 stops:SeqStopsK (Mw none) 2 P gf lb (λx=> #[encs x]) Kp S Sp N w
 trans:∀{A B C:World},Kp A B->Kp B C->Kp A C
 put:∀(W:World) (l:Nat) (o o':Obj),w.heap.size<=l->W.heap[l]? =some o->o.isCells=false->o.isWalk=false->Kp W (W.putObj l o')
 rep:∀x,eF (bF ρ H) ρ w (VB x) (encs x)
 keep:∀Xp H1 W1 UK H2 W2,Ext ρ H w Xp H1 W1->Ext Xp H1 W1 UK H2 W2->Kp W1 W2
theorem Tv{ρ:ik}{H:Hp}{W:World}(h:eu ρ H W)(hni:∀id ob,H id=some ob->nY ob=true){k:Nat}{o:Obj}(hk:W.heap[k]? =some o)(ho:o.isCells=false):¬Own ρ H k:=by
 rintro⟨id,ob,v,h1,h2,h3⟩
 obtain⟨v',hv',ji⟩:=h.ob id ob h1
 rw[h2] at hv'
 cases hv'
 cases ob with
 |box t cells=>obtain⟨g,vals,rfl,hg,hr⟩:=ji;cases h3;rw[hg] at hk;cases hk;cases ho
 |row e sz rows=>
  obtain⟨h0,inner,hor,hl,hr⟩:=ji
  rcases hor.2 with ⟨rfl,_⟩|⟨g,cap,cur,rfl,_,hg,_⟩
  ·cases h3
  ·cases h3;rw[hg] at hk;cases hk;cases ho
 |iter s pos=>have:=hni id _ h1;cases this
 |mp es=>have:=hni id _ h1;cases this
 |Ah _ _ _=>have:=hni id _ h1;cases this
 |jZ e sz rows c=>obtain⟨h0,g,n,inner,cur,rfl,hg,_⟩:=ji;cases h3;rw[hg] at hk;cases hk;cases ho
 |raw g x=>obtain⟨rfl,_⟩:=ji;cases h3
theorem FI{ρ:ik}{H:Hp}{W W':World}{row:Option Nat}(h:eu ρ H W)(hni:∀id ob,H id=some ob->nY ob=true)(hg:W.grownBy W' row)(hr:∀r,row=some r->∃o:Obj,W.heap[r]? =some o/\o.isCells=false):MF ρ H W W' where
 os:=hg.os
 tape:=hg.tape
 output:=hg.output
 size:=hg.size
 cells k o h1 h2:=by
  rw[hg.block k (Array.getElem?_eq_some_iff.1 h1).1 (λe=>by obtain⟨o',h3,h4⟩:=hr k e.symm;rw[h1] at h3;cases h3;rw[h2] at h4;cases h4)];exact h1
 iter id s pos g h1 _:=by have:=hni id _ h1;cases this
 mp id es g h1 _:=by have:=hni id _ h1;cases this
 Ah id _ _ _ g h1 _:=by have:=hni id _ h1;cases this
section
variable {P:Program} {n:Nat} {Q:sN->Sl->Hp->Prop} {H0:Hp} {l:List (Nat×AV)} {I:List (Nat×Ob)}
def PX{β:Type}(H0:Hp)(O Ox:β->List (Nat×Ob))(J Jx:β->Prop)(ix:Nat):sN->Sl->Hp->Prop
 | .normal,_,H'=>∃b,J b/\aP H0 (O b)/\Sub (aD H0 (O b)) H'
 | .exit id,_,H'=>id=ix/\∃b,Jx b/\aP H0 (Ox b)/\Sub (aD H0 (Ox b)) H'
 |_,_,_=>False
theorem UW.rangeFunc{α β:Type}{g:Operand}{p d O9:Nat}{ty:TypeId}{ps:String}{af:Array Edge}{body:Code}{gf:Nat}{df:List AV}(S Sp:List α->Prop)(N:Nat)(VB:α->AV)(ix:Nat)
 (hg:aW l g=some (.iF gf df)) (hb:JJ P gf) (hp:p<n) (hd:d<n)
 (hit:∀ρ w (lb:List Value),eu ρ (aD H0 I) w->MH (bF ρ (aD H0 I)) ρ w df lb->∃encs Kp,Iter P gf lb.toArray S Sp N ρ (aD H0 I) w VB encs Kp)
 (O Ox:β->List (Nat×Ob)) (J Jx:List α->β->Prop) (b0:β) (h0:J [] b0) (ho:(O b0)=I)
 (hni0:∀id ob,H0 id=some ob->nY ob=true) (hni:∀b,((O b).all λp=>nY p.2)=true) (hnix:∀b,((Ox b).all λp=>nY p.2)=true)
 (hround:∀(lp:Nat) (pre:List α) (x:α) (b:β),J pre b->pre.length<N-> @UW ⟨some lp⟩ P n (PX H0 O Ox (J (pre++[x])) (Jx (pre++[x])) ix) H0 body ((d,VB x)::(p,VB x)::l) (O b))
 (hdone:∀xs b,S xs->J xs b->UQ Q H0 .normal l (O b)) (hstop:∀pre b,Sp pre->Jx pre b->UQ Q H0 (.exit ix) l (Ox b)):
 @UW rd0 P n Q H0 (.rangeFunc g #[p] (.region O9 #[⟨some d,.assign (.tmp p),ty,ps,af,none⟩] false) body) l I:=by
 subst ho
 intro ay E a w hi
 obtain⟨ρ,h1,h2,h3⟩:=hi.rel
 have hrg:=iH h3 g
 rw[aG hg] at hrg
 obtain⟨lb,hga,hlb⟩:∃lb:List Value,a.eval g=.func (.func gf) #[] lb.toArray/\MH (bF ρ (aD H0 (O b0))) ρ w df lb:=by
  generalize a.eval g=y at hrg
  cases hrg with
  |iF _ _ vs hl hr=>exact⟨vs,rfl,hl,hr⟩
 obtain⟨encs,Kp,it⟩:=hit ρ w lb h1 hlb
 obtain⟨fn,hfn,hnm,hbd⟩:=hb
 have nit:∀(os:List (Nat×Ob)),(os.all λp=>nY p.2)=true->∀id ob,aD H0 os id=some ob->nY ob=true:=λos hos id ob h=>by
  rcases Ck h with h|h
  ·exact List.all_eq_true.1 hos _ h
  ·exact hni0 id ob h
 -- between two rounds
 let ai:List α->World->Prop:=λpre W=>∃b FJ,J pre b/\aP H0 (O b)/\eu FJ (aD H0 (O b)) W/\Ext ρ (aD H0 (O b0)) w FJ (aD H0 (O b)) W/\Marks E a.defers W
 let Ix:Code->List α->World->Prop:=λc pre W=>c=.exit ix/\∃b FJ,Jx pre b/\aP H0 (Ox b)/\eu FJ (aD H0 (Ox b)) W/\Ext ρ (aD H0 (O b0)) w FJ (aD H0 (Ox b)) W/\Marks E a.defers W
 have turn:∀{os:List (Nat×Ob)} {FJ:ik} {W W':World} {row:Option Nat},(os.all λp=>nY p.2)=true->eu FJ (aD H0 os) W->Ext ρ (aD H0 (O b0)) w FJ (aD H0 os) W->Marks E a.defers W->W.grownBy W' row->(∀r,row=some r->w.heap.size<=r/\∃o:Obj,W.heap[r]? =some o/\o.isCells=false)->
  eu FJ (aD H0 os) W'/\Ext ρ (aD H0 (O b0)) w FJ (aD H0 os) W'/\Marks E a.defers W':=by
  intro os FJ W W' row hos hr he hm hgr hrow
  have k:=FI hr (nit os hos) hgr (λr e=>(hrow r e).2)
  refine⟨hr.off k,⟨k.os.trans he.os,k.tape.trans he.tape,k.output.trans he.output,Nat.le_trans he.size k.size,λj hj hn=>?_,he.own,he.ME⟩,?_⟩
  ·rw[hgr.block j (Nat.lt_of_lt_of_le hj he.size) (λe=>by have:=(hrow j e.symm).1;omega)]
   exact he.block j hj hn
  ·obtain⟨Ds,m1,m2,m3⟩:=hi.defers
   obtain⟨Ds',q1,q2,q3⟩:=hm
   have hDs:Ds=Ds':=by
    rw[m1] at q1
    exact List.map_inj_right (λx y e=>by cases e;rfl)|>.1 q1
   subst hDs
   refine⟨Ds,m1,m2,λD hD=>⟨(m3 D hD).1,?_⟩⟩
   have hlt:=(Array.getElem?_eq_some_iff.1 (m3 D hD).2).1
   rw[hgr.block D (Nat.lt_of_lt_of_le hlt he.size) (λe=>by have:=(hrow D e.symm).1;omega)]
   exact(q3 D hD).2
 have more:∀{D:Nat} {W:World},w.heap.size<=D->W.heap[D]? =some (.deferred (some []))->Marks E a.defers W->Marks E (UM D::a.defers) W:=by
  rintro D W hle hD ⟨Ds',c1,c2,c3⟩
  obtain⟨Ds,m1,m2,m3⟩:=hi.defers
  have hDs:Ds=Ds':=by
   rw[m1] at c1
   exact List.map_inj_right (λx y e=>by cases e;rfl)|>.1 c1
  subst hDs
  refine⟨D::Ds,by rw[List.map_cons,<-m1],List.nodup_cons.2 ⟨λhm=>?_,m2⟩,λD' hD'=>?_⟩
  ·have:=(Array.getElem?_eq_some_iff.1 (m3 D hm).2).1;omega
  ·rcases List.mem_cons.1 hD' with rfl|hD'
   ·exact⟨Nat.le_trans h2.size hle,hD⟩
   ·exact c3 D' hD'
 refine wpIn_rangeFunc_ownF (F:=Mw none) (w0:=w) U (by decide) hga trivial (λargs w=>?_) it.stops it.trans it.put (Below.refl _ _) (λ_=>rfl) ai Ix ?_ ?_ ⟨b0,ρ,h0,ay,h1,Ext.refl _ _ _,hi.defers⟩
  (λx=>{tmps:=(a.tmps.setIfInBounds p (encs x)).setIfInBounds d (encs x),defers:=[]}) ?_ ?_ ?_ ?_
 ·obtain⟨c,hc⟩:∃c,fn.body=some c:=by
   cases hbb:fn.body with
   |none=>rw[hbb] at hbd;cases hbd
   |some c=>exact⟨c,rfl⟩
  have hnm':fn.name≠ "runtime.NumGoroutine" :=by simpa using hnm
  simp[callFunc,hfn,hnm',hc]
 ·rintro pre W W' row ⟨b,FJ,q1,q2,q3,q4,q5⟩ hgr hrow
  obtain⟨t1,t2,t3⟩:=turn (hni b) q3 q4 q5 hgr hrow
  exact⟨b,FJ,q1,q2,t1,t2,t3⟩
 ·rintro c pre W W' row ⟨rfl,b,FJ,q1,q2,q3,q4,q5⟩ hgr hrow
  obtain⟨t1,t2,t3⟩:=turn (hnix b) q3 q4 q5 hgr hrow
  exact⟨rfl,b,FJ,q1,q2,t1,t2,t3⟩
 ·intro lp x W K hK
  refine wpIn_region_lit (l:=[_]) ?_
  unfold wpListIn
  rw[if_pos (by simp[Region.wanted])]
  refine⟨λ_ _=>trivial,?_⟩
  rw[Oper.semAt_eq _ _ _ (λc hc=>by cases hc)]
  unfold execOp
  have e1:({tmps:=a.tmps.setIfInBounds p (encs x),defers:=[]}:Act).eval (.tmp p)=encs x:=by
   show(a.tmps.setIfInBounds p (encs x)).getD p undef=encs x
   simp[Array.getD,hi.size,hp]
  show K _ W
  have e2:(([p].toArray.zip #[encs x]).foldl (λt (p,v)=>t.setIfInBounds p v) a.tmps)=a.tmps.setIfInBounds p (encs x):=by simp
  rw[e2,e1]
  exact hK
 ·rintro lp pre x W ⟨b,FJ,q1,q2,q3,q4,q5⟩ hlen
  have hx:=q4.rep (it.rep x)
  have hT:=λt=>q4.rep (h3 t)
  have hT1:=xL (a:={tmps:=a.tmps,defers:=[]}) hi.size hT (some p) hx
  simp only[EB,hp,if_true,Ec] at hT1
  have hT2:=xL (a:=({tmps:=a.tmps,defers:=[]}:Act).put (some p) (encs x)) (by show(a.tmps.setIfInBounds p (encs x)).size=n;simp[hi.size]) hT1 (some d) hx
  simp only[EB,hd,if_true,Ec] at hT2
  have hh:=hround lp pre x b q1 hlen q2 ⟨FJ,aD H0 (O b),W⟩ {tmps:=(a.tmps.setIfInBounds p (encs x)).setIfInBounds d (encs x),defers:=[]} W
   ⟨by simp[hi.size],.none,FJ,q3,Ext.refl _ _ _,hT2⟩
  show Code.wpIn (Mw (some lp)) 1 P _ _ _ _
  refine wpIn_mono (PW hh) ?_
  have ko:∀{ρ':ik} {H':Hp} {W':World},Ext FJ (aD H0 (O b)) W ρ' H' W'->KeepsOthers W W':=λr2=>
   ⟨r2.size,λk o hk ho=>(r2.block k (Array.getElem?_eq_some_iff.1 hk).1 (Tv q3 (nit _ (hni b)) hk ho)).trans hk⟩
  intro e a' W' hq
  cases e with
  |normal=>
   obtain⟨T',H',hi',b',hJ',hd',hs⟩:=hq
   obtain⟨ρ',r1,r2,r3⟩:=hi'.rel
   exact⟨ko r2,it.keep _ _ _ _ _ _ q4 r2,b',ρ',hJ',hd',r1.drop hs,(q4.trans r2).trans (Ext.drop hs W'),q5.step q3 r2⟩
  |exit id=>
   obtain⟨T',H',hi',rfl,b',hJ',hd',hs⟩:=hq
   obtain⟨ρ',r1,r2,r3⟩:=hi'.rel
   exact⟨ko r2,rfl,b',ρ',hJ',hd',r1.drop hs,(q4.trans r2).trans (Ext.drop hs W'),q5.step q3 r2⟩
  |goto t=>obtain⟨T',H',hi',hf⟩:=hq;exact hf.elim
  |ret=>obtain⟨T',H',hi',hf⟩:=hq;exact hf.elim
  |panic ch=>exact hq.elim
  |outgrown=>exact hq.elim
 ·rintro D xs W hle hS ⟨b,FJ,q1,q2,q3,q4,q5⟩ hD
  exact⟨gD l,aD H0 (O b),⟨hi.size,more hle hD q5,FJ,q3,h2.trans q4,λt=>q4.rep (h3 t)⟩,hdone xs b hS q1 q2⟩
 ·rintro D c pre W hle hS ⟨rfl,b,FJ,q1,q2,q3,q4,q5⟩ hD
  exact wpIn_exit ⟨gD l,aD H0 (Ox b),⟨hi.size,more hle hD q5,FJ,q3,h2.trans q4,λt=>q4.rep (h3 t)⟩,hstop pre b hS q1 q2⟩
end
theorem bO.iF{H H':Hp}{f:Nat}{l l':List AV}(hl:l'.length=l.length)(h:∀(j:Nat) u u',l[j]? =some u->l'[j]? =some u'->bO H u H' u'):bO H (.iF f l) H' (.iF f l'):=by
 intro ρ w x hh hr
 cases hr with
 |iF _ _ vs hl2 hr2=>exact .iF f l' vs (by omega) (λj u' y h1 h2=>by
   have hj:j<l.length:=by rw[<-hl];exact(List.getElem?_eq_some_iff.1 h1).1
   exact h j _ u' (List.getElem?_eq_getElem hj) h1 ρ w y hh (hr2 j _ y (List.getElem?_eq_getElem hj) h2))
theorem bO.rpb{H H':Hp}{id e:Nat}{cells:List AV}(hs:Sub H' H)(h:H id=some (.box e cells))(h':H' id=none):bO H (.ptr id 0) H' (.rp cells):=by
 intro ρ w x hh hx
 obtain⟨g,vals,rfl,hv,hg,hc⟩:=lX hh h hx
 have hok:bF ρ H' g:=by
  rintro⟨kP,ob2,v2,a1,a2,a3⟩
  have:=hh.apart kP id ob2 _ v2 _ g (hs _ _ a1) h a2 hv a3 U
  subst this
  rw[h'] at a1
  cases a1
 have hE:=Ext.drop (ρ:=ρ) hs w
 refine .rp cells _ (λj=>vals.getD j default) (λ_=>⟨hok,(Array.getElem?_eq_some_iff.1 hg).1⟩) (λj hj=>?_) (λj u hj=>?_)
 ·have hj2:j<vals.length:=by rw[<-hc.1];exact hj
  have e1:vals.getD j default=vals[j]:=by simp[List.getD,hj2]
  rw[add_plain,e1]
  refine⟨?_,(hc.2 j _ _ (List.getElem?_eq_getElem hj) (List.getElem?_eq_getElem hj2)).2⟩
  simp[World.cell?,hg,hj2]
 ·have hj1:=(List.getElem?_eq_some_iff.1 hj).1
  have hj2:j<vals.length:=by rw[<-hc.1];exact hj1
  have e1:vals.getD j default=vals[j]:=by simp[List.getD,hj2]
  rw[e1]
  exact hE.rep (hc.2 j u _ hj (List.getElem?_eq_getElem hj2)).1
section
variable [Rd]
def UG(P:Program)(t:TypeId):Option (Nat×Nat×Nat):=
 match P.underlying t with
 |some (.array n e)=>(P.info? e).map λi=>(n,e,i.size)
 |_=>none
theorem Ba{P:Program}{t n e s:Nat}(h:UG P t=some (n,e,s)):P.underlying t=some (.array n e)/\∃i,P.info? e=some i/\i.size=s:=by
 unfold UG at h
 split at h
 ·rename_i n' e' hu
  obtain⟨i,hi,hx⟩:=Option.map_eq_some_iff.1 h
  cases hx
  exact⟨hu,i,hi,rfl⟩
 ·cases h
section
variable {P:Program} {n:Nat} {ops:Array Oper} {T:Sl} {H H0:Hp} {o:Oper} {K:AV->Hp->Prop} {l:List (Nat×AV)} {I:List (Nat×Ob)} {x y:Operand} {dst:Option Nat} {ty t:TypeId} {ps:String} {af:Array Edge} {u:AV} {ki:IntKind} {i:Int}
theorem Does.K4{len e s id off:Nat}(hg:o.guard=none)(ho:o.op=.indexAddr t x y)(ht:UG P t=some (len,e,s))(hx:ev T x=.ptr id off)(hy:ev T y=.v (.int ki i))(h0:0<=i)(h1:i<len)(hk:K (.ptr id (off+i.toNat*s)) H):Does P n ops o T H K:=by
 refine Does.val _ hg (λa w ρ hh hr=>?_) hk
 have h3:=hr x
 have h4:=hr y
 rw[hx] at h3
 rw[hy] at h4
 obtain⟨hu,inf,hi,hs⟩:=Ba ht
 generalize kQ:a.eval x=xx at h3
 cases h3 with
 |ptr _ _ g x' hv hx'=>
  have hsz:(sizeOf e).run P w=.ok s w:=by simp[sizeOf,typeInfo,hi,hs,go_sem]
  refine⟨.pointer (some ⟨g,off+i.toNat*s,none⟩),?_,.ptr id _ g x' hv hx'⟩
  unfold execOp
  rw[ho]
  simp only[kQ,aV h4]
  have he:P.elem t=e:=by simp[Program.elem,hu]
  have hl:P.arrayLen t=len:=by simp[Program.arrayLen,hu]
  have this:=run_indexAt_array (P:=P) (w:=w) t ⟨g,off,none⟩ ki i (by rw[hl,he];exact hu)
  rw[hl,he,if_pos ⟨h0,h1⟩,hsz] at this
  simp only[Sem.run_bind,this,Result.andThen_ok,Sem.run_pure,add_plain]
theorem Does.VC{len e:Nat}{ls:List AV}(hg:o.guard=none)(ho:o.op=.index t x y)(ht:UG P t=some (len,e,1))(he:eQ P e=some (false,1))(hx:ev T x=.agg ls)(hy:ev T y=.v (.int ki i))(h0:0<=i)(h1:i<len)(hu:ls[i.toNat]? =some u)(hk:K u H):Does P n ops o T H K:=by
 refine Does.val _ hg (λa w ρ hh hr=>?_) hk
 have h3:=hr x
 have h4:=hr y
 rw[hx] at h3
 rw[hy] at h4
 obtain⟨hun,inf,hi,hs⟩:=Ba ht
 generalize kQ:a.eval x=xx at h3
 cases h3 with
 |agg _ vs hl hr2=>
  have hlt:=(List.getElem?_eq_some_iff.1 hu).1
  have hv:vs[i.toNat]? =some (vs[i.toNat]'(by omega)):=List.getElem?_eq_getElem (by omega)
  have hsz:(sizeOf e).run P w=.ok 1 w:=by simp[sizeOf,typeInfo,hi,hs,go_sem]
  refine⟨vs[i.toNat]'(by omega),?_,hr2 _ _ _ hu hv⟩
  unfold execOp
  rw[ho]
  simp only[kQ,aV h4]
  have hd:(0<=i/\i<(len:Int)):=⟨h0,h1⟩
  obtain⟨d,ie,hd1,_,hb,_⟩:=sO he
  have hu1:=run_underlying (w:=w) hd1
  have hag:(isAgg e).run P w=.ok false w:=by cases d<;>simp_all[isAgg,BP,go_sem]
  simp[Instr.index,asIntOf,run_underlying hun,hd,hsz,part,hag,hv,go_sem]
theorem Does.VD{len e id off lo' hi':Nat}{lo hi:Option Operand}(hg:o.guard=none)(ho:o.op=.slice t x lo hi none)(ht:UG P t=some (len,e,1))(hx:ev T x=.ptr id off)(hbx:∃e' cells,H id=some (.box e' cells))(hb:DV T len lo hi lo' hi')(h1:lo'<=hi')(h2:hi'<=len)(h3:lo'<len)(h4:len<=maxLen)(hk:K (.MC id (off+lo') (hi'-lo')) H):Does P n ops o T H K:=by
 refine Does.val _ hg (λa w ρ hh hr=>?_) hk
 have h5:=hr x
 rw[hx] at h5
 obtain⟨hun,inf,hin,hs⟩:=Ba ht
 obtain⟨e',cells,hbx⟩:=hbx
 obtain⟨g,vals,kQ,hv,_,_⟩:=lX hh hbx h5
 have hsz:(sizeOf e).run P w=.ok 1 w:=by simp[sizeOf,typeInfo,hin,hs,go_sem]
 have yE:¬len=lo':=by omega
 refine⟨.slice (some ⟨g,off+lo',none⟩) (hi'-lo') (len-lo'),?_,.MC id _ _ g _ hv (by omega) (by omega)⟩
 unfold execOp
 rw[ho]
 simp only[kQ]
 have key:∀(low high:Option Value),(Instr.sliceBounds false len len low high none).run P w=.ok (lo',hi',len) w->(Instr.sliceAt t (.pointer (some ⟨g,off,none⟩)) low high none).run P w=.ok (.slice (some ⟨g,off+lo',none⟩) (hi'-lo') (len-lo')) w:=by
  intro low high hbd
  simp only[Instr.sliceAt,Sem.run_bind,run_underlying hun,Result.andThen_ok,Instr.sureAddr,Sem.run_pure,hbd,hsz,yE,if_false,add_plain,Nat.mul_one]
 have hbd:(Instr.sliceBounds false len len (lo.map a.eval) (hi.map a.eval) none).run P w=.ok (lo',hi',len) w:=by
  cases hb with
  |all=>simp[Instr.sliceBounds,go_sem]
  |lo x k _ hx=>have:=hr x;rw[hx] at this;simp only[Option.map_some,Option.map_none,aV this];simp[Instr.sliceBounds,Instr.sliceBound,asIntOf,go_sem,h1,h2]
  |hi x k _ hx=>have:=hr x;rw[hx] at this;simp only[Option.map_some,Option.map_none,aV this];simp[Instr.sliceBounds,Instr.sliceBound,asIntOf,go_sem,h1,h2]
  |both x y k k' _ _ hx hy=>have q1:=hr x;rw[hx] at q1;have q2:=hr y;rw[hy] at q2;simp only[Option.map_some,Option.map_none,aV q1,aV q2];simp[Instr.sliceBounds,Instr.sliceBound,asIntOf,go_sem,h1,h2]
 simp only[Sem.run_bind,Option.map_none,key _ _ hbd,Result.andThen_ok,Sem.run_pure]
theorem Does.VE{t' e b id o1 l1 o2 l2 m e':Nat}{cells:List AV}(hg:o.guard=none)(ho:o.op=.call {callee:=.builtin .copy,args:= #[x,y],argTypes:= #[t,t']})(ht:lu P t=some (e,1,b))(hx:ev T x=.MC id o1 l1)(hy:ev T y=.MC id o2 l2)(h2:H id=some (.box e' cells))(hm:Nat.min l2 l1=m)(hb1:o1+m<=cells.length)(hb2:o2+m<=cells.length)
 (hk:K (.v (.int .i64 (m:Int))) (set H id (some (.box e' (gz cells o1 ((cells.drop o2).take m)))))):Does P n ops o T H K:=by
 intro a w ρ h1 hd h3 h4 N Q hN
 rw[if_pos (by simp[Region.wanted,hg])]
 have hr:=iH h4
 have hX:=hr x
 have hY:=hr y
 rw[hx] at hX
 rw[hy] at hY
 obtain⟨v,hv,g,vals,rfl,hgc,hc⟩:=h3.ob id _ h2
 generalize kQ:a.eval x=xx at hX
 generalize hyy:a.eval y=yy at hY
 cases hX with
 |MC _ _ _ g1 cap1 q1 q2 q3=>
  cases hY with
  |MC _ _ _ g2 cap2 r1 r2 r3=>
   rw[hv] at q1 r1
   cases q1;cases r1
   have hl:=hc.1
   have hsub:=fT hc o2 m
   have hone:∀v∈(vals.drop o2).take m,v.oneCell'=true:=λv hv=>by
    obtain⟨j,hj⟩:=List.getElem?_of_mem hv
    have hlt:j<((cells.drop o2).take m).length:=by rw[hsub.1];exact(List.getElem?_eq_some_iff.1 hj).1
    exact(hsub.2 j _ v (List.getElem?_eq_getElem hlt) hj).2
   obtain⟨w',hrun,hw⟩:=uA (P:=P) (e0:=e') (t':=t') (ty:=o.type) (g:=g) (p:=o1) (dl:=l1) (dc:=cap1) (x:=.slice (some ⟨g,o2,none⟩) l2 cap2) (cur:=vals.toArray) (nv:=(vals.drop o2).take m) ht hgc hm (by simp;omega) hone
    (.inr ⟨_,_,rfl,λj y hj=>by
      rw[List.getElem?_take] at hj
      split at hj
      ·rw[List.getElem?_drop] at hj
       rw[add_plain]
       simp[World.cell?,hgc,hj]
      ·cases hj⟩) (by simp;omega)
   unfold Oper.wp
   rw[wJ ho (by rw[kQ,hyy];exact hrun)]
   have:=h3.write (.box e' (gz cells o1 ((cells.drop o2).take m))) h2 hv hw.os hw.tape hw.output (by rw[hw.size];exact Nat.le_refl _) (λk _ hk=>hw.block k (λe=>hk (by rw[e];rfl)))
    (λρ' H' ex _=>⟨g,gz vals o1 ((vals.drop o2).take m),rfl,hw.at_,lq (ex.cells hc) (ex.cells hsub) _⟩)
   exact hN _ w' ρ _ _ this.1 this.2 (.v _) hk
theorem Z.FK{len e s id off:Nat}(ht:UG P t=some (len,e,s))(hx:aW l x=some (.ptr id off))(hy:aW l y=some (.v (.int ki i)))(h0:0<=i)(h1:i<len):QS P n ops H0 ⟨dst,.indexAddr t x y,ty,ps,af,none⟩ l I (.ptr id (off+i.toNat*s)):=λ_=>Does.K4 U U ht (aG hx) (aG hy) h0 h1 ⟨rfl,rfl⟩
theorem Z.xar{len e:Nat}{ls:List AV}(ht:UG P t=some (len,e,1))(he:eQ P e=some (false,1))(hx:aW l x=some (.agg ls))(hy:aW l y=some (.v (.int ki i)))(h0:0<=i)(h1:i<len)(hu:ls[i.toNat]? =some u):QS P n ops H0 ⟨dst,.index t x y,ty,ps,af,none⟩ l I u:=λ_=>Does.VC U U ht he (aG hx) (aG hy) h0 h1 hu ⟨rfl,rfl⟩
theorem Z.slb{len e e' id off lo' hi':Nat}{lo hi:Option Operand}{cells:List AV}(k:Nat)(ht:UG P t=some (len,e,1))(hx:aW l x=some (.ptr id off))(h2:I[k]? =some (id,.box e' cells))(hb:mD l len lo hi lo' hi')(h1:lo'<=hi')(h2':hi'<=len)(h3:lo'<len)(h4:len<=maxLen:=by decide):QS P n ops H0 ⟨dst,.slice t x lo hi none,ty,ps,af,none⟩ l I (.MC id (off+lo') (hi'-lo')):=
 λhd=>Does.VD U U ht (aG hx) ⟨_,_,hd.at_ h2⟩ hb.to h1 h2' h3 h4 ⟨rfl,rfl⟩
theorem D.cpb{t' e b id o1 l1 o2 l2 m e':Nat}{cells:List AV}{aM:List (Nat×Ob)}{K':AV->List (Nat×Ob)->Prop}(k:Nat)(ht:lu P t=some (e,1,b))(hx:aW l x=some (.MC id o1 l1))(hy:aW l y=some (.MC id o2 l2))(h2:I[k]? =some (id,.box e' cells))(hm:Nat.min l2 l1=m)(hb1:o1+m<=cells.length)(hb2:o2+m<=cells.length)(ji:I.set k (id,.box e' (gz cells o1 ((cells.drop o2).take m)))=aM)(hk:K' (.v (.int .i64 (m:Int))) aM):
 DS P n ops H0 ⟨dst,.call {callee:=.builtin .copy,args:= #[x,y],argTypes:= #[t,t']},ty,ps,af,none⟩ l I K':=λay=>by
 subst ji
 obtain⟨a,b⟩:=ay.ku (.box e' (gz cells o1 ((cells.drop o2).take m))) h2
 exact Does.VE U U ht (aG hx) (aG hy) (ay.at_ h2) hm hb1 hb2 ⟨_,a,b,hk⟩
end
end
section
variable [Rd]
theorem VF(z:Value)(m:Nat):madeCells #[z] m=(List.replicate m z).toArray:=by
 apply Array.toList_inj.1
 rw[toList_madeCells_one]
theorem FL(zv:Value)(m:Nat):(List.replicate m [AV.v zv]).flatten=(List.replicate m zv).map AV.v:=by
 induction m with
 |zero=>rfl
 |succ m ih=>rw[List.replicate_succ,List.flatten_cons,ih,List.replicate_succ,List.map_cons];rfl
section
variable {P:Program} {n:Nat} {ops:Array Oper} {T:Sl} {H H0:Hp} {o:Oper} {K:AV->Hp->Prop} {l:List (Nat×AV)} {I:List (Nat×Ob)} {x y:Operand} {dst:Option Nat} {ty t t2:TypeId} {ps:String} {af:Array Edge} {u:AV}
def X7(k:IntKind)(a:Int):Int:=k.wrap (BitVec.ofInt k.bits (if k.signed=true then-1 else k.max)^^^BitVec.ofInt k.bits a).toNat
theorem Does.com{x:Operand}{t:TypeId}{k:IntKind}{a:Int}(hg:o.guard=none)(ho:o.op=.unOp .xor t x)(hx:ev T x=.v (.int k a))(hk:K (.v (.int k (X7 k a))) H):Does P n ops o T H K:=by
 refine Does.val _ hg (λac w ρ hh hr=>?_) hk
 have h3:=hr x
 rw[hx] at h3
 refine⟨_,?_,.v _⟩
 unfold execOp
 rw[ho]
 simp[aV h3,Op.unary,Op.intBits,Sem.run_bind,Sem.run_pure,Result.andThen_ok,X7]
theorem Does.X8{e b m:Nat}{ki kj:IntKind}{zv:Value}(hg:o.guard=none)(ho:o.op=.makeSlice t x y)(ht:kg P t e 1 b)(hx:ev T x=.v (.int ki (m:Int)))(hy:ev T y=.v (.int kj (m:Int)))(hz:(P.info? e).map (·.zero)=some (some zv))(hzc:zv.cells= #[zv])(h1c:zv.oneCell'=true)(hb:m*b<=140737488355328)
 (hk:∀id,H id=none->K (.own id 0 m 1) (set H id (some (.row e 1 (List.replicate m [.v zv]))))):Does P n ops o T H K:=by
 refine Does.Aj hg λa w ρ h hr=>?_
 obtain⟨hu,he,inf,MZ,hsi,hbi⟩:=eH ht.sl
 have hzr:inf.zero=some zv:=by rw[MZ] at hz;simpa using hz
 have hb1:m<=m*b:=Nat.le_mul_of_pos_right _ ht.b
 have hxv:=aV (by have:=hr x;rw[hx] at this;exact this)
 have hyv:=aV (by have:=hr y;rw[hy] at this;exact this)
 have hm:m<=maxLen:=by simp only[maxLen];omega
 have hrun:=run_make (P:=P) w t e inf zv hu MZ hzr ki kj m m (by omega) (Int.le_refl _) (by rw[hbi,<-Int.natCast_mul,Nat.mul_comm];omega) (by omega)
 simp only[Int.toNat_natCast,hsi,hzc,Nat.mul_one,VF] at hrun
 have hex:(execOp a.eval o).run P w=.ok (.value (.slice (some ⟨w.heap.size,0,none⟩) m m)) (w.alloc (.cells (List.replicate m zv).toArray e)):=by
  unfold execOp
  rw[ho]
  simp only[hxv,hyv,Sem.run_bind,hrun,Result.andThen_ok,Sem.run_pure]
 refine⟨_,_,_,.row e 1 (List.replicate m [.v zv]),hex,iP _ _,?_,λρ' H' e'=>⟨by decide,List.replicate m zv,by rw[List.length_replicate];exact Df (by simp) hm,λcs hcs=>by rw[List.eq_of_mem_replicate hcs];rfl,?_⟩,λid hid=>⟨.own id 0 m 1,λok' ρ' h'=>?_,hk id hid⟩⟩
 ·intro k hk;cases hk;rw[size_alloc];simp
 ·rw[FL]
  exact kv _ (by rw[List.all_eq_true];intro v hv;rw[List.eq_of_mem_replicate hv];exact h1c)
 ·have:=eF.own (ok:=ok') (w:=w.alloc (.cells (List.replicate m zv).toArray e)) id 0 m 1 w.heap.size m m h' (by omega) hm
  simpa using this
theorem Does.X9{e s b:Nat}(hg:o.guard=none)(ho:o.op=.call {callee:=.builtin .cap,args:= #[x],argTypes:= #[t]})(ht:lu P t=some (e,s,b))(hx:ev T x=.v (.slice none 0 0))(hk:K (.v (.int .i64 0)) H):Does P n ops o T H K:=by
 refine Does.val _ hg (λac w ρ hh hr=>?_) hk
 have h3:=hr x
 rw[hx] at h3
 obtain⟨hu,he,_⟩:=eH ht
 exact⟨_,EU (v':=goInt 0) (w':=w) ho (by rw[aV h3];simp[Builtin.cap_,run_underlying hu]),.v _⟩
theorem Does.Tw{e s b:Nat}{z:Operand}{k:IntKind}(hg:o.guard=none)(ho:o.op=.slice t x none (some z) none)(ht:lu P t=some (e,s,b))(hx:ev T x=.v (.slice none 0 0))(hz:ev T z=.v (.int k 0))(hk:K (.v (.slice none 0 0)) H):Does P n ops o T H K:=by
 refine Does.val _ hg (λa w ρ hh hr=>?_) hk
 have h3:=hr x
 rw[hx] at h3
 have kQ:=aV h3
 obtain⟨hu,he,_⟩:=eH ht
 have hb:=Ak (w:=w) (A:=none) (len:=0) (cap:=0) hr ht (DV.hi z k 0 hz) (Nat.le_refl _) (Nat.le_refl _) (Nat.le_refl _)
 refine⟨_,jD ho (λx=>run_sliceAt_slice (P:=P) (w:=w) t x _ _ _ (by rw[he];exact hu)) (by rw[kQ];exact hb),?_⟩
 simp[sliced]
 exact .v _
theorem Does.Ty{tn e b m:Nat}{kq kn:IntKind}{zv:Value}(hg:o.guard=none)(ho:o.op=.call {callee:=.builtin .append,args:= #[x,y],argTypes:= #[t,tn]})(ht:kg P t e 1 b)(htn:P.underlying tn=some (.int kn))(hx:ev T x=.v (.slice none 0 0))(hy:ev T y=.v (.int kq (m:Int)))(h0:0<m)(hz:(P.info? e).map (·.zero)=some (some zv))(hzc:zv.cells= #[zv])(h1c:zv.oneCell'=true)(hb:m*b<=140737488355328)
 (hk:∀id,H id=none->K (.own id 0 m 1) (set H id (some (.row e 1 (List.replicate m [.v zv]))))):Does P n ops o T H K:=by
 refine Does.Aj hg λa w ρ h hr=>?_
 obtain⟨hu,he,inf,MZ,hsi,hbi⟩:=eH ht.sl
 have hzr:inf.zero=some zv:=by rw[MZ] at hz;simpa using hz
 have hb1:m<=m*b:=Nat.le_mul_of_pos_right _ ht.b
 have hxv:=aV (by have:=hr x;rw[hx] at this;exact this)
 have hyv:=aV (by have:=hr y;rw[hy] at this;exact this)
 have hfit:Builtin.nextslicecap (0+m) 0*inf.bytes<=281474976710656:=by
  rw[hbi]
  have h7:Builtin.nextslicecap (0+m) 0<=2*(0+m):=nextslicecap_le (by omega)
  have:=Nat.mul_le_mul_right b h7
  rw[Nat.mul_assoc] at this
  simp only[Nat.zero_add] at this⊢
  omega
 have hrun:=Lib.run_append_grow_zeros (P:=P) w t tn o.type e inf zv kq kn hu htn MZ hzr none 0 0 [] (by simp[Builtin.firstCells]) m h0 (by omega) (by omega) (by omega) (by rw[hbi];omega) hfit
 have hge:=grownCap_ge w (0+m) 0 e
 have hle:=grownCap_le_maxLen w (0+m) 0 e (by simp only[maxLen];omega)
 have hzl:∀j,(Builtin.zeroCells zv.cells j).toList=List.replicate j zv:=λj=>by
  have:=mI zv.cells j (by rw[hzc];exact Nat.zero_lt_one)
  rw[this,hzc]
  induction j with
  |zero=>rfl
  |succ j ih=>rw[List.replicate_succ,List.flatten_cons,ih (mI _ _ (by rw[hzc];exact Nat.zero_lt_one)),List.replicate_succ];rfl
 rw[Nat.zero_add] at hrun hge hle
 refine⟨_,.slice (some ⟨w.heap.size,0,none⟩) m (grownCap w m 0 e),_,.row e 1 (List.replicate m [.v zv]),qm ho (by rw[hxv,hyv];exact hrun),((Below.refl _ w).drew).alloc (Nat.le_refl _) _,?_,λρ' H' e'=>⟨by decide,List.replicate m zv,⟨by simp,.inr ⟨w.heap.size,grownCap w m 0 e,_,by simp,Nat.zero_le _,heap_alloc_new w.drew _,by simpa using hge,hle,?_,?_⟩⟩,λcs hcs=>by rw[List.eq_of_mem_replicate hcs];rfl,?_⟩,λid hid=>⟨.own id 0 m 1,λok' ρ' hρ=>?_,hk id hid⟩⟩
 ·intro k' hk'
  simp[blk] at hk'
  subst hk'
  refine⟨Nat.le_refl _,?_⟩
  rw[size_alloc]
  exact Nat.lt_succ_self _
 ·rw[<-Array.length_toList]
  simp only[Array.toList_append,hzl,List.length_append,List.length_replicate]
  simp
  omega
 ·simp only[Array.toList_append,hzl,List.length_replicate,Nat.mul_one]
  simp
 ·rw[FL]
  exact kv _ (by rw[List.all_eq_true];intro v hv;rw[List.eq_of_mem_replicate hv];exact h1c)
 ·have:=eF.own (ok:=ok') (ρ:=ρ') (w:=w.drew.alloc (.cells (#[]++Builtin.zeroCells zv.cells m++Builtin.zeroCells zv.cells (grownCap w m 0 e-m)) e)) id 0 m 1 w.heap.size m (grownCap w m 0 e) hρ (by omega) hle
  simpa using this
theorem Z.com{k:IntKind}{a r:Int}(hx:aW l x=some (.v (.int k a)))(hr:X7 k a=r):QS P n ops H0 ⟨dst,.unOp .xor t x,ty,ps,af,none⟩ l I (.v (.int k r)):=λ_=>Does.com U U (aG hx) ⟨by rw[hr],rfl⟩
theorem Z.cpn{e s b:Nat}(ht:lu P t=some (e,s,b))(hx:aW l x=some (.v (.slice none 0 0))):QS P n ops H0 ⟨dst,.call {callee:=.builtin .cap,args:= #[x],argTypes:= #[t]},ty,ps,af,none⟩ l I (.v (.int .i64 0)):=λ_=>Does.X9 U U ht (aG hx) ⟨rfl,rfl⟩
theorem Z.sln{e s b:Nat}{z:Operand}{k:IntKind}(ht:lu P t=some (e,s,b))(hx:aW l x=some (.v (.slice none 0 0)))(hz:aW l z=some (.v (.int k 0))):QS P n ops H0 ⟨dst,.slice t x none (some z) none,ty,ps,af,none⟩ l I (.v (.slice none 0 0)):=λ_=>Does.Tw U U ht (aG hx) (aG hz) ⟨rfl,rfl⟩
theorem D.mks{e b:Nat}(m:Nat){ki kj:IntKind}{zv:Value}{K:AV->List (Nat×Ob)->Prop}(ht:kg P t e 1 b)(hx:aW l x=some (.v (.int ki (m:Int))))(hy:aW l y=some (.v (.int kj (m:Int))))(hz:(P.info? e).map (·.zero)=some (some zv))(hb:m*b<=140737488355328)(hk:∀id,K (.own id 0 m 1) ((id,.row e 1 (List.replicate m [.v zv]))::I))(hzc:zv.cells= #[zv]:=by rfl)(h1c:zv.oneCell'=true:=by rfl):DS P n ops H0 ⟨dst,.makeSlice t x y,ty,ps,af,none⟩ l I K:=
 λay=>Does.X8 U U ht (aG hx) (aG hy) hz hzc h1c hb λid hid=>⟨(id,.row e 1 (List.replicate m [.v zv]))::I,rfl,.cons hid ay,hk id⟩
theorem D.azn{e b tn:Nat}(m:Nat){kq kn:IntKind}{zv:Value}{K:AV->List (Nat×Ob)->Prop}(ht:kg P t e 1 b)(htn:P.underlying tn=some (.int kn))(hx:aW l x=some (.v (.slice none 0 0)))(hy:aW l y=some (.v (.int kq (m:Int))))(h0:0<m)(hz:(P.info? e).map (·.zero)=some (some zv))(hb:m*b<=140737488355328)(hk:∀id,K (.own id 0 m 1) ((id,.row e 1 (List.replicate m [.v zv]))::I))(hzc:zv.cells= #[zv]:=by rfl)(h1c:zv.oneCell'=true:=by rfl):DS P n ops H0 ⟨dst,.call {callee:=.builtin .append,args:= #[x,y],argTypes:= #[t,tn]},ty,ps,af,none⟩ l I K:=
 λay=>Does.Ty U U ht htn (aG hx) (aG hy) h0 hz hzc h1c hb λid hid=>⟨(id,.row e 1 (List.replicate m [.v zv]))::I,rfl,.cons hid ay,hk id⟩
theorem DY{a:Act}{w:World}{t:TypeId}{parts:Array (Nat×Operand)}{len e:Nat}{zv:Value}{cells:List Value}(ho:o.op=.build t parts)(ht:UG P t=some (len,e,1))(hz:(P.info? t).map (·.zero)=some (some zv))
 (h:Instr.fill (λi=>some (i,1)) zv.cells (parts.toList.map λp=>(p.1,a.eval p.2))=some cells.toArray):(execOp a.eval o).run P w=.ok (.value (.agg cells.toArray)) w:=by
 have hb:P.built t (parts.map λ(i,x)=>(i,a.eval x)).toList=some cells.toArray:=by
  obtain⟨hu,inf,hi,hs⟩:=Ba ht
  obtain⟨it,hit,hz'⟩:=Option.map_eq_some_iff.1 hz
  unfold Program.built
  simp only[hit,hu,hz',hi,hs,Nat.mul_one]
  rw[<-h]
  congr 1
  simp
 unfold execOp
 rw[ho]
 simp only[run_build w t _ _ hb,Sem.run_bind,Sem.run_pure,Result.andThen_ok]
theorem Z.bar{parts:Array (Nat×Operand)}{len e:Nat}{zv:Value}{zs:List Value}{us MU rs:List AV}{ky:List (List AV)}(ht:UG P t=some (len,e,1))(hz:(P.info? t).map (·.zero)=some (some zv))(ha:iM l (parts.toList.map (·.2))=some us)(hf:mF us=some ky)(hc:(ky.all λcs=>cs.all aT&&cs.length==1)=true)(hv:vals zs=some MU)(hr:Ar MU (parts.toList.map (·.1)) ky=some rs)
 (hzs:zv.cells.toList=zs:=by rfl) (hz1:zs.all (·.oneCell')=true:=by rfl):QS P n ops H0 ⟨dst,.build t parts,ty,ps,af,none⟩ l I (.agg rs):=by
 intro _
 have e1:=j4 ha
 have e2:=ny hf
 have e3:=EN hr
 have e4:(parts.toList.map λp=>ev (gD l) p.2)=us:=by rw[<-e1,List.map_map];rfl
 have hul:us.length=parts.toList.length:=by rw[<-e4,List.length_map]
 have husl:ky.length=us.length:=by rw[<-e2,List.length_map]
 refine Does.val (.agg rs) U (λa w ρ hh hr2=>?_) ⟨rfl,rfl⟩
 obtain⟨cells',f1,f2⟩:=Ao (ok:=bF ρ _) (ρ:=ρ) (w:=w) (λi=>some (i,1)) (parts.toList.map λp=>(p.1,a.eval p.2)) (parts.toList.map λp=>ev (gD l) p.2) (parts.toList.map (·.1)) (zs.map .v) zs (by simp) (by simp) (λj p u off h1 h2 h3=>by
  rw[List.getElem?_map] at h1 h2 h3
  cases hj:parts.toList[j]? with
  |none=>rw[hj] at h1;cases h1
  |some q=>
   rw[hj] at h1 h2 h3
   cases h1;cases h2;cases h3
   have h3':us[j]? =some (ev (gD l) q.2):=by rw[<-e4,List.getElem?_map,hj];rfl
   have h4:ky[j]? =some (flat (ev (gD l) q.2)):=by rw[<-e2,List.getElem?_map,h3'];rfl
   have hcc:=List.all_eq_true.1 hc _ (List.mem_of_getElem? h4)
   rw[Bool.and_eq_true,beq_iff_eq] at hcc
   have h5:=e3.2.2 j q.1 _ (by rw[List.getElem?_map,hj];rfl) h4
   rw[<-rG hv] at h5
   exact⟨hr2 q.2,hcc.1,by rw[hcc.2],h5⟩) (kv zs hz1)
 have hza:zv.cells=zs.toArray:=by rw[<-hzs]
 refine⟨_,DY U ht hz (by rw[hza];exact f1),?_⟩
 have:=lh f2
 rw[e4,e2,rG hv,e3.1] at this
 exact this
def rf(a b:Int):Int:=IntKind.u32.wrap (a+b)
def Nr(a b:Int):Int:=IntKind.u32.wrap (BitVec.ofInt IntKind.u32.bits a^^^BitVec.ofInt IntKind.u32.bits b).toNat
def Tz(a b:Int):Int:=IntKind.u32.wrap (BitVec.ofInt IntKind.u32.bits a&&&BitVec.ofInt IntKind.u32.bits b).toNat
def VG(a b:Int):Int:=IntKind.u32.wrap (BitVec.ofInt IntKind.u32.bits a|||BitVec.ofInt IntKind.u32.bits b).toNat
def DZ(a n:Int):Int:=IntKind.u32.wrap (a*2^min n.toNat IntKind.u32.bits)
def K5(a n:Int):Int:=a.fdiv (2^min n.toNat IntKind.u32.bits)
def notW(a:Int):Int:=X7 .u32 a
theorem Z.rq{a b:Int}(hx:aW l x=some (.v (.int .u32 a)))(hy:aW l y=some (.v (.int .u32 b))):QS P n ops H0 ⟨dst,.binOp .add t x y t2,ty,ps,af,none⟩ l I (.v (.int .u32 (rf a b))):=Z.bi hx hy U
theorem Z.vZ{a b:Int}(hx:aW l x=some (.v (.int .u32 a)))(hy:aW l y=some (.v (.int .u32 b))):QS P n ops H0 ⟨dst,.binOp .xor t x y t2,ty,ps,af,none⟩ l I (.v (.int .u32 (Nr a b))):=Z.bi hx hy U
theorem Z.Io{a b:Int}(hx:aW l x=some (.v (.int .u32 a)))(hy:aW l y=some (.v (.int .u32 b))):QS P n ops H0 ⟨dst,.binOp .and t x y t2,ty,ps,af,none⟩ l I (.v (.int .u32 (Tz a b))):=Z.bi hx hy U
theorem Z.wor{a b:Int}(hx:aW l x=some (.v (.int .u32 a)))(hy:aW l y=some (.v (.int .u32 b))):QS P n ops H0 ⟨dst,.binOp .or t x y t2,ty,ps,af,none⟩ l I (.v (.int .u32 (VG a b))):=Z.bi hx hy U
theorem Z.TA{a b:Int}{k:IntKind}(hx:aW l x=some (.v (.int .u32 a)))(hy:aW l y=some (.v (.int k b)))(hb:0<=b):QS P n ops H0 ⟨dst,.binOp .shl t x y t2,ty,ps,af,none⟩ l I (.v (.int .u32 (DZ a b))):=Z.shl hx hy hb U
theorem Z.FM{a b:Int}{k:IntKind}(hx:aW l x=some (.v (.int .u32 a)))(hy:aW l y=some (.v (.int k b)))(hb:0<=b):QS P n ops H0 ⟨dst,.binOp .shr t x y t2,ty,ps,af,none⟩ l I (.v (.int .u32 (K5 a b))):=Z.shr hx hy hb U
theorem Z.wnot{a:Int}(hx:aW l x=some (.v (.int .u32 a))):QS P n ops H0 ⟨dst,.unOp .xor t x,ty,ps,af,none⟩ l I (.v (.int .u32 (notW a))):=Z.com hx U
theorem Bb:∀(l:List AV) (off:Nat) (u:AV),off<l.length->wD l off [u]=some (l.set off u)
 |x::r,0,u,_=>by simp[wD]
 |x::r,m+1,u,h=>by
  rw[wD,Bb r m u (by simpa using h)]
  rfl
theorem D.sre{m off e sz:Nat}{bb:Bool}{rows rws:List (List AV)}{cells:List AV}{id:Nat}{K:AV->List (Nat×Ob)->Prop}(k:Nat)(ht:eQ P t=some (bb,sz))(hx:aW l x=some (.ptr id off))(h2:I[k]? =some (id,.row e sz rows))(hoff:off=m*sz)(hi:m<rows.length)(hy:aW l y=some u)(hf:qf u=some cells)(hc:cells.all aT=true)(hl:cells.length=sz)(hrows:∀cs∈rows,cs.length=sz)(hw:rows.set m cells=rws)
 (hk:∀u,K u (I.set k (id,.row e sz rws))) (hz:0<sz:=by decide):DS P n ops H0 ⟨dst,.store t x y,ty,ps,af,none⟩ l I K:=by
 subst hw
 exact D.str k ht hx h2 hoff hi hy hf hc hl hrows hk hz
end
end
end Go.iG
end
