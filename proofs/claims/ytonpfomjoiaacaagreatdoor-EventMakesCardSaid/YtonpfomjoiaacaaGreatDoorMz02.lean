/- A part of the proof. -/
import Derived.Test.YtonpfomjoiaacaaGreatDoorMz01
import Derived.TacticsIn
import Derived.OrdersIn
import Derived.Sort.LoopGhostIn
import Derived.RangeFuncLeaves
import Derived.RangeFuncFrom
set_option maxRecDepth 100000
set_option maxHeartbeats 4000000
set_option linter.unusedSectionVars false
set_option linter.unusedVariables false
set_option linter.unusedSimpArgs false
section
namespace Go.fT
open Go Go.RowKit
structure SF where
 ρ:gz
 H:Hp
 w:World
abbrev Sl:=Nat->AV
def SG(D:Nat):Deferred:={target:=.collected D,args:= #[]}
def Marks(E:SF)(ds:List Deferred)(w:World):Prop:=∃Ds:List Nat,ds=Ds.map SG/\Ds.Nodup/\∀D∈Ds,E.w.heap.size<=D/\w.heap[D]? =some (.deferred (some []))
theorem Marks.none{E:SF}{w:World}:Marks E [] w:=⟨[],rfl,List.nodup_nil,λD h=>by cases h⟩
theorem zX{ρ:gz}{H:Hp}{w:World}{D:Nat}{x:Option (List Deferred)}(h:dN ρ H w)(hD:w.heap[D]? =some (.deferred x)):¬Own ρ H D:=by
 rintro⟨id,ob,v,h1,h2,h3⟩
 obtain⟨v',hv',iD⟩:=h.ob id ob h1
 rw[h2] at hv'
 cases hv'
 cases ob with
 |box t cells=>obtain⟨g,vals,rfl,hg,hr⟩:=iD;cases h3;rw[hg] at hD;cases hD
 |row e sz rows=>
  obtain⟨h0,inner,ho,hl,hr⟩:=iD
  rcases ho.2 with ⟨rfl,_⟩|⟨g,cap,cur,rfl,_,hg,_⟩
  ·cases h3
  ·cases h3;rw[hg] at hD;cases hD
 |iter s pos=>obtain⟨g,rfl,hg⟩:=iD;cases h3;rw[hg] at hD;cases hD
 |jA e sz rows c=>obtain⟨h0,g,n,inner,cur,rfl,hg,_⟩:=iD;cases h3;rw[hg] at hD;cases hD
 |raw g x=>obtain⟨rfl,_⟩:=iD;cases h3
 |mp es=>obtain⟨g,l,uy,rfl,hg,_⟩:=iD;cases h3;rw[hg] at hD;cases hD
 |yE mid n seen=>obtain⟨g,gm,rfl,_,hg⟩:=iD;cases h3;rw[hg] at hD;cases hD
theorem Marks.step{E:SF}{ds:List Deferred}{w w':World}{ρ ρ':gz}{H H':Hp}(h:Marks E ds w)(hr:dN ρ H w)(e:Ext ρ H w ρ' H' w'):Marks E ds w':=by
 obtain⟨Ds,h1,h2,h3⟩:=h
 exact⟨Ds,h1,h2,λD hD=>⟨(h3 D hD).1,(e.block D (Array.getElem?_eq_some_iff.1 (h3 D hD).2).1 (zX hr (h3 D hD).2)).trans (h3 D hD).2⟩⟩
theorem dU.off{ok:Nat->Prop}{ρ:gz}{w w':World}{u:AV}{x:Value}(h:dU ok ρ w u x)(hc:∀a v,w.cell? a=some v->w'.cell? a=some v)(hs:w.heap.size<=w'.heap.size):dU ok ρ w' u x:=by
 induction h with
 |any x=>exact .any x
 |v x=>exact .v x
 |agg l vs h hr ih=>exact .agg l vs h ih
 |kM l vs h hr ih=>exact .kM l vs h ih
 |nil=>exact .nil
 |sl rows a cap sz vals hcap hmax hok hsz hcc hr ih=>exact .sl rows a cap sz vals hcap hmax (λhn=>⟨(hok hn).1,Nat.lt_of_lt_of_le (hok hn).2 hs⟩) hsz (λi cs j h1 h2=>⟨hc _ _ (hcc i cs j h1 h2).1,(hcc i cs j h1 h2).2⟩) ih
 |rp cells a vals hok hcc hr ih=>exact .rp cells a vals (λhn=>⟨(hok hn).1,Nat.lt_of_lt_of_le (hok hn).2 hs⟩) (λj h1=>⟨hc _ _ (hcc j h1).1,(hcc j h1).2⟩) ih
 |lW id sz h=>exact .lW id sz h
 |own id off len sz g n cap h hle hmax=>exact .own id off len sz g n cap h hle hmax
 |nP id off sz g n cap o' c' h h0 hm=>exact .nP id off sz g n cap o' c' h h0 hm
 |ptr id off g x h hx=>exact .ptr id off g x h hx
 |gN f bS vs h hr ih=>exact .gN f bS vs h ih
 |Zp t u x h ih=>exact .Zp t u x ih
 |KE id off len g cap h hl hm=>exact .KE id off len g cap h hl hm
 |mpr id g h=>exact .mpr id g h
theorem aX.off{ok:Nat->Prop}{ρ:gz}{w w':World}{us:List AV}{xs:List Value}(h:aX ok ρ w us xs)(hc:∀a v,w.cell? a=some v->w'.cell? a=some v)(hs:w.heap.size<=w'.heap.size):aX ok ρ w' us xs:=
 ⟨h.1,λj u x h1 h2=>⟨(h.2 j u x h1 h2).1.off hc hs,(h.2 j u x h1 h2).2⟩⟩
theorem rF.off{ok:Nat->Prop}{ρ:gz}{w w':World}{us:List AV}{xs:List Value}(h:rF ok ρ w us xs)(hc:∀a v,w.cell? a=some v->w'.cell? a=some v)(hs:w.heap.size<=w'.heap.size):rF ok ρ w' us xs:=
 ⟨h.1,λj u x h1 h2=>(h.2 j u x h1 h2).off hc hs⟩
structure KG(ρ:gz)(H:Hp)(w w':World):Prop where
 os:w'.os=w.os
 tape:w'.tape=w.tape
 output:w'.output=w.output
 size:w.heap.size<=w'.heap.size
 cells:∀(k:Nat) (o:Obj),w.heap[k]? =some o->o.isCells=true->w'.heap[k]? =some o
 iter:∀id s pos g,H id=some (.iter s pos)->ρ id=some (.pointer (some ⟨g,0,none⟩))->w'.heap[g]? =w.heap[g]?
 mp:∀id es g,H id=some (.mp es)->ρ id=some (.map (some g))->w'.heap[g]? =w.heap[g]?
 yE:∀id mid n seen g,H id=some (.yE mid n seen)->ρ id=some (.pointer (some ⟨g,0,none⟩))->w'.heap[g]? =w.heap[g]?
theorem KG.cell{ρ:gz}{H:Hp}{w w':World}(k:KG ρ H w w'):∀a v,w.cell? a=some v->w'.cell? a=some v:=by
 intro a v h
 obtain⟨o,h1,h2⟩:=cells_of_cell h
 have h3:=k.cells _ _ h1 h2
 unfold World.cell? at h⊢
 rw[h3];rw[h1] at h;exact h
theorem dN.off{ρ:gz}{H:Hp}{w w':World}(h:dN ρ H w)(k:KG ρ H w w'):dN ρ H w' where
 ob id ob hi:=by
  obtain⟨v,h1,h2⟩:=h.ob id ob hi
  refine⟨v,h1,?_⟩
  cases ob with
  |box t cells=>obtain⟨g,vals,rfl,hg,hr⟩:=h2;exact⟨g,vals,rfl,k.cells _ _ hg rfl,hr.off k.cell k.size⟩
  |row e sz rows=>
   obtain⟨h0,inner,ho,hl,hr⟩:=h2
   refine⟨h0,inner,⟨ho.1,?_⟩,hl,hr.off k.cell k.size⟩
   rcases ho.2 with h2|⟨g,cap,cur,rfl,hg,hh,r⟩
   ·exact .inl h2
   ·exact .inr ⟨g,cap,cur,rfl,hg,k.cells _ _ hh U,r⟩
  |iter s pos=>obtain⟨g,rfl,hg⟩:=h2;exact⟨g,rfl,(k.iter id s pos g hi h1).trans hg⟩
  |jA e sz rows c=>obtain⟨h0,g,n,inner,cur,rfl,hg,r1,r2,r3,r4,r5,hr⟩:=h2;exact⟨h0,g,n,inner,cur,rfl,k.cells _ _ hg rfl,r1,r2,r3,r4,r5,hr.off k.cell k.size⟩
  |raw g x=>obtain⟨rfl,hok,hg,cs,t,f,rfl⟩:=h2;exact⟨rfl,hok,k.cells _ _ hg rfl,cs,t,f,rfl⟩
  |mp es=>obtain⟨g,l,uy,rfl,hg,r1,r2,r3⟩:=h2;exact⟨g,l,uy,rfl,(k.mp id es g hi h1).trans hg,r1,r2.off k.cell k.size,r3⟩
  |yE mid n seen=>obtain⟨g,gm,rfl,r1,hg⟩:=h2;exact⟨g,gm,rfl,r1,(k.yE id mid n seen g hi h1).trans hg⟩
 apart:=h.apart
 room:=h.room
 lt id v g h1 h2:=Nat.lt_of_lt_of_le (h.lt id v g h1 h2) k.size
theorem Nb{ρ:gz}{H:Hp}{w:World}{D:Nat}{x:Option (List Deferred)}(h:dN ρ H w)(hD:w.heap[D]? =some (.deferred x)):KG ρ H w (w.putObj D (.deferred none)) where
 os:=rfl
 tape:=rfl
 output:=rfl
 size:=by simp[World.putObj]
 cells k o h1 h2:=by
  rw[World.putObj_heap_other (λe=>by subst e;rw[h1] at hD;cases hD;cases h2)];exact h1
 iter id s pos g h1 h2:=World.putObj_heap_other (λe=>by
  subst e
  obtain⟨v,hv,g',rfl,hg⟩:=h.ob id _ h1
  rw[h2] at hv;cases hv
  rw[hg] at hD;cases hD)
 mp id es g h1 h2:=World.putObj_heap_other (λe=>by
  subst e
  obtain⟨v,hv,g',l,uy,rfl,hg,_⟩:=h.ob id _ h1
  rw[h2] at hv;cases hv
  rw[hg] at hD;cases hD)
 yE id mid n seen g h1 h2:=World.putObj_heap_other (λe=>by
  subst e
  obtain⟨v,hv,g',gm,rfl,_,hg⟩:=h.ob id _ h1
  rw[h2] at hv;cases hv
  rw[hg] at hD;cases hD)
structure Inv(E:SF)(n:Nat)(T:Sl)(H:Hp)(a:Act)(w:World):Prop where
 size:a.tmps.size=n
 defers:Marks E a.defers w
 rel:∃ρ,dN ρ H w/\Ext E.ρ E.H E.w ρ H w/\∀t,dU (bF ρ H) ρ w (T t) (a.tmps.getD t undef)
inductive qH where
 |normal
 |exit (id:Nat)
 |goto (l:Nat)
 |ret
def lift(E:SF)(n:Nat)(Q:qH->Sl->Hp->Prop):Exit->Act->World->Prop
 | .normal,a,w=>∃T H,Inv E n T H a w/\Q .normal T H
 | .exit id,a,w=>∃T H,Inv E n T H a w/\Q (.exit id) T H
 | .goto l,a,w=>∃T H,Inv E n T H a w/\Q (.goto l) T H
 | .ret,a,w=>∃T H,Inv E n T H a w/\Q .ret T H
 |_,_,_=>False
class Rd where
 r:Option Nat
instance rd0:Rd:=⟨none⟩
def KD(r:Option Nat):Fence:={Fence.wide with round:=r}
theorem KH{r:Option Nat}{n:Nat}{P:Program}{f:FuncId}{args:Array Value}{w:World}{R:Ending->World->Prop}(h:Calls P f args w R):CallsIn (KD r) n P f args w R:=
 (callsIn_wide (n:=n)).2 h
theorem Nc{r:Option Nat}{n:Nat}{P:Program}{row:String}{args:Array Value}{w:World}{R:Value->World->Prop}(h:Rows P row args w R):RowsIn (KD r) n P row args w R:=λc cs _=>by
 obtain⟨v,w',h1,h2⟩:=h c cs
 exact⟨v,w',h1,stepsIn_wide.2 h2⟩
theorem Nf{r:Option Nat}{P:Program}{o:Oper}{a:Act}{w:World}{N:Act->World->Prop}{Q:Exit->Act->World->Prop}(h:o.wp P a w (λa' w'=>a'.defers=a.defers/\N a' w') Q)(hQ:∀c a w,¬Q (.panic c) a w):o.wpIn (KD r) 3 P a w N Q:=by
 unfold Oper.wp at h
 refine⟨λ_ _=>trivial,?_⟩
 have hnd:∀c,o.op≠.defer c:=by
  intro c hc
  unfold execOp at h
  rw[hc] at h
  simp only[Sem.run_bind] at h
  generalize (resolve a.eval c o.type).run P w=x at h
  cases x with
  |ok d w'=>
   simp only[Result.andThen_ok,Sem.run_pure,Oper.upon] at h
   have h1:=h.1
   simp[Act.put] at h1
   split at h1<;>simp at h1
  |halt x w'=>
   cases x<;>simp only[Result.andThen,Oper.upon] at h
   exact hQ _ _ _ h
 rw[Oper.semAt_eq _ _ _ hnd]
 generalize (execOp a.eval o).run P w=x at h
 cases x with
 |ok y w'=>
  cases y<;>simp only[Oper.upon,Oper.uponIn] at h⊢
  case value v=>exact h.2
  case skip=>exact h.2
  case defer d=>exact h.2
  case enter f args=>exact⟨λhh=>(by cases hh),KH (h.mono λe w'' he=>by cases e<;>first|exact he.2|exact he)⟩
  case row row args=>exact⟨λhh=>(by cases hh),Nc (λc cs=>by obtain⟨v,w'',h1,h2⟩:=h c cs;exact⟨v,w'',h1.2,h2⟩)⟩
 |halt y w'=>cases y<;>simp only[Oper.upon,Oper.uponIn] at h⊢ <;>exact h
theorem put_defers(a:Act)(d:Option Nat)(x:Value):(a.put d x).defers=a.defers:=by unfold Act.put;split<;>rfl
def AW[Rd](P:Program)(n:Nat)(c:Code)(Q:qH->Sl->Hp->Prop)(T:Sl)(H:Hp):Prop:=
 ∀E a w,Inv E n T H a w->c.wpIn (KD Rd.r) 3 P (lift E n Q) a w
def uo[Rd](P:Program)(n:Nat)(ops:Array Oper)(Q:qH->Sl->Hp->Prop)(rest:List Oper)(T:Sl)(H:Hp):Prop:=
 ∀E a w,Inv E n T H a w->wpListIn (KD Rd.r) 3 P ops (lift E n Q) rest a w
def lS(N:Sl->Hp->Prop)(Q:qH->Sl->Hp->Prop):qH->Sl->Hp->Prop
 | .normal,T,H=>N T H
 |e,T,H=>Q e T H
def kY(id:Nat)(Q:qH->Sl->Hp->Prop):qH->Sl->Hp->Prop
 | .exit id',T,H=>if id'=id then Q .normal T H else Q (.exit id') T H
 |e,T,H=>Q e T H
section
variable [Rd] {P:Program} {n:Nat} {Q:qH->Sl->Hp->Prop} {T:Sl} {H:Hp}
theorem QB{E:SF}{Q':qH->Sl->Hp->Prop}(h:∀e T H,Q e T H->Q' e T H):∀e a w,lift E n Q e a w->lift E n Q' e a w:=by
 intro e a w hh
 cases e<;>first|exact hh.elim|(obtain⟨T,H,hi,hq⟩:=hh;exact⟨T,H,hi,h _ _ _ hq⟩)
theorem AW.mono{c:Code}{Q':qH->Sl->Hp->Prop}(h:AW P n c Q T H)(hq:∀e T H,Q e T H->Q' e T H):AW P n c Q' T H:=
 λE a w hi=>wpIn_mono (h E a w hi) (QB hq)
theorem AW.skip(h:Q .normal T H):AW P n .skip Q T H:=λ_ _ _ hi=>wpIn_skip ⟨T,H,hi,h⟩
theorem AW.exit{id:Nat}(h:Q (.exit id) T H):AW P n (.exit id) Q T H:=λ_ _ _ hi=>wpIn_exit ⟨T,H,hi,h⟩
theorem AW.ret(h:Q .ret T H):AW P n .ret Q T H:=λ_ _ _ hi=>wpIn_ret ⟨T,H,hi,h⟩
theorem AW.seq{x y:Code}(h:AW P n x (lS (AW P n y Q) Q) T H):AW P n (.seq x y) Q T H:=by
 intro E a w hi
 refine wpIn_seq (wpIn_mono (h E a w hi) ?_)
 intro e a' w' hh
 cases e with
 |normal=>obtain⟨T',H',hi',hq⟩:=hh;exact hq E a' w' hi'
 |exit id=>exact hh
 |goto l=>exact hh
 |ret=>exact hh
 |panic ch=>exact hh.elim
 |outgrown=>exact hh.elim
theorem AW.block{id:Nat}{c:Code}(h:AW P n c (kY id Q) T H):AW P n (.block id c) Q T H:=by
 intro E a w hi
 refine wpIn_block (wpIn_mono (h E a w hi) ?_)
 intro e a' w' hh
 cases e with
 |normal=>exact hh
 |exit id'=>
  obtain⟨T',H',hi',hq⟩:=hh
  simp only[Exit.inBlock]
  simp only[kY] at hq
  split
  ·rw[if_pos (by assumption)] at hq;exact⟨T',H',hi',hq⟩
  ·rw[if_neg (by assumption)] at hq;exact⟨T',H',hi',hq⟩
 |goto l=>exact hh
 |ret=>exact hh
 |panic ch=>exact hh.elim
 |outgrown=>exact hh.elim
def ev(T:Sl):Operand->AV
 | .tmp t=>T t
 | .const x=> .v x
 | .global g=> .v (.pointer (some ⟨g,0,none⟩))
 | .func f=> .gN f []
theorem gP{ρ:gz}{H:Hp}{a:Act}{w:World}(h:∀t,dU (bF ρ H) ρ w (T t) (a.tmps.getD t undef))(x:Operand):dU (bF ρ H) ρ w (ev T x) (a.eval x):=by
 cases x with
 |tmp t=>exact h t
 |const x=>exact .v x
 |global g=>exact .v _
 |func f=>exact .gN f [] [] U (λj u x h=>by simp at h)
theorem aS{ok:Nat->Prop}{ρ:gz}{w:World}{x y:Value}(h:dU ok ρ w (.v x) y):y=x:=by cases h;rfl
theorem AW.cond{c:Operand}{x y:Code}(b:Bool)(hc:ev T c=.v (.bool b))(ht:b=true->AW P n x Q T H)(hf:b=false->AW P n y Q T H):AW P n (.cond c x y) Q T H:=by
 intro E a w hi
 obtain⟨ρ,h1,h2,h3⟩:=hi.rel
 have:=gP h3 c
 rw[hc] at this
 have hb:=aS this
 refine wpIn_cond_split hb (λh=>ht h E a w hi) (λh=>hf h E a w hi)
theorem AW.loop{c:Code}(ai:Nat->Sl->Hp->Prop)(m:Nat)(h0:ai m T H)
 (round:∀m T H,ai m T H->AW P n c (lS (λT' H'=>∃m',m'<m/\ai m' T' H') Q) T H):AW P n (.loop c) Q T H:=by
 intro E a w hi
 refine wpIn_loop_ghost (λm a w=>∃T H,ai m T H/\Inv E n T H a w) m ⟨T,H,h0,hi⟩ ?_
 rintro m a w ⟨T,H,hI,hi⟩
 refine wpIn_mono (round m T H hI E a w hi) ?_
 intro e a' w' hq
 cases e with
 |normal=>
  obtain⟨T1,H1,hi1,m',hlt,hI1⟩:=hq
  exact⟨m',hlt,T1,H1,hI1,hi1⟩
 |exit id=>exact hq
 |goto l=>exact hq
 |ret=>exact hq
 |panic ch=>exact hq.elim
 |outgrown=>exact hq.elim
theorem AW.Ng{id:Nat}{l:List Oper}(h:uo P n l.toArray Q l T H):AW P n (.region id l.toArray false) Q T H:=
 λE a w hi=>wpIn_region_lit (h E a w hi)
theorem uo.nil{ops:Array Oper}(h:Q .normal T H):uo P n ops Q [] T H:=λ_ _ _ hi=>⟨T,H,hi,h⟩
def upd(T:Sl)(d:Nat)(u:AV):Sl:=λt=>if t=d then u else T t
def CL(n:Nat)(T:Sl)(d:Option Nat)(u:AV):Sl:=match d with
 |some d=>if d<n then upd T d u else T
 |none=>T
theorem vK{ok:Nat->Prop}{ρ:gz}{w:World}{a:Act}{u:AV}{x:Value}(hn:a.tmps.size=n)(h:∀t,dU ok ρ w (T t) (a.tmps.getD t undef))(d:Option Nat)(hx:dU ok ρ w u x):
 ∀t,dU ok ρ w (CL n T d u t) ((a.put d x).tmps.getD t undef):=by
 intro t
 cases d with
 |none=>exact h t
 |some d=>
  simp only[CL,Act.put]
  by_cases hd:d<n
  ·rw[if_pos hd]
   unfold upd
   by_cases ht:t=d
   ·subst ht
    rw[if_pos U]
    have:(a.tmps.setIfInBounds t x).getD t undef=x:=by simp[Array.getD,hn,hd]
    rw[this];exact hx
   ·rw[if_neg ht]
    have:(a.tmps.setIfInBounds d x).getD t undef=a.tmps.getD t undef:=by
     rw[Array.getD_eq_getD_getElem?,Array.getD_eq_getD_getElem?,Array.getElem?_setIfInBounds_ne (Ne.symm ht)]
    rw[this];exact h t
  ·rw[if_neg hd]
   have:a.tmps.setIfInBounds d x=a.tmps:=by
    apply Array.ext_getElem?
    intro i
    rw[Array.getElem?_setIfInBounds]
    split
    ·rename_i hi;subst hi;rw[if_neg (by omega),Array.getElem?_eq_none (by omega)]
    ·rfl
   rw[this];exact h t
def Does(P:Program)(n:Nat)(ops:Array Oper)(o:Oper)(T:Sl)(H:Hp)(K:AV->Hp->Prop):Prop:=
 ∀(a:Act) (w:World) (ρ:gz),a.tmps.size=n->a.defers=a.defers->dN ρ H w->(∀t,dU (bF ρ H) ρ w (T t) (a.tmps.getD t undef))->
  ∀(N:Act->World->Prop) (Q:Exit->Act->World->Prop),
   (∀x w' ρ' u H',dN ρ' H' w'->Ext ρ H w ρ' H' w'->dU (bF ρ' H') ρ' w' u x->K u H'->N (a.put o.dst x) w')->
   if Region.wanted o (yielded ops a.tmps)=true then o.wp P a w N Q else N (a.put o.dst undef) w
theorem Does.mono{ops:Array Oper}{o:Oper}{K K':AV->Hp->Prop}(h:Does P n ops o T H K)(hk:∀u H,K u H->K' u H):Does P n ops o T H K':=
 λa w ρ h1 h2 h3 h4 N Q hN=>h a w ρ h1 h2 h3 h4 N Q (λx w' ρ' u H' a1 a2 a3 a4=>hN x w' ρ' u H' a1 a2 a3 (hk _ _ a4))
theorem uo.cons{ops:Array Oper}{o:Oper}{rest:List Oper}(h:Does P n ops o T H (λu H'=>uo P n ops Q rest (CL n T o.dst u) H')):uo P n ops Q (o::rest) T H:=by
 intro E a w hi
 obtain⟨ρ,h1,h2,h3⟩:=hi.rel
 have hh:=h a w ρ hi.size U h1 h3 (λa' w'=>a'.defers=a.defers/\wpListIn (KD Rd.r) 3 P ops (lift E n Q) rest a' w') (lift E n Q) (λx w' ρ' u H' a1 a2 a3 a4=>⟨put_defers _ _ _,a4 E _ w' ⟨by simp only[Act.put];split<;>simp[hi.size],by rw[put_defers];exact hi.defers.step h1 a2,ρ',a1,h2.trans a2,vK hi.size (λt=>a2.rep (h3 t)) o.dst a3⟩⟩)
 unfold wpListIn
 split
 ·rename_i hw
  rw[if_pos hw] at hh
  exact Nf hh (λc a w h=>h)
 ·rename_i hw
  rw[if_neg hw] at hh
  exact⟨λ_ _=>trivial,hh.2⟩
theorem Does.val{ops:Array Oper}{o:Oper}{K:AV->Hp->Prop}(u:AV)(hg:o.guard=none)
 (h:∀(a:Act) (w:World) (ρ:gz),dN ρ H w->(∀x:Operand,dU (bF ρ H) ρ w (ev T x) (a.eval x))->∃x,(execOp a.eval o).run P w=.ok (.value x) w/\dU (bF ρ H) ρ w u x) (hk:K u H):Does P n ops o T H K:=by
 intro a w ρ h1 h2 h3 h4 N Q hN
 rw[if_pos (by simp[Region.wanted,hg])]
 obtain⟨x,hx,hr⟩:=h a w ρ h3 (gP h4)
 unfold Oper.wp
 rw[hx]
 exact hN x w ρ u H h3 (Ext.refl _ _ _) hr hk
def KI(ok:Nat->Prop)(ρ:gz)(w:World)(us:List AV)(xs:List Value):Prop:=
 us.length=xs.length/\∀(j:Nat) (u:AV) (x:Value),us[j]? =some u->xs[j]? =some x->dU ok ρ w u x
def HV(P:Program)(f:FuncId):Prop:=∃fn,P.funcs[f]? =some fn/\(fn.name== "runtime.NumGoroutine")=false/\fn.body.isNone=false
def au(P:Program)(f:FuncId)(us:List AV)(H:Hp)(K:AV->Hp->Prop):Prop:=
 HV P f/\∀ρ w vals,dN ρ H w->KI (bF ρ H) ρ w us vals->
  Calls P f vals.toArray w λe w'=>∃x ρ' u H',e=.returned x/\dN ρ' H' w'/\Ext ρ H w ρ' H' w'/\dU (bF ρ' H') ρ' w' u x/\K u H'
theorem au.mono{f:FuncId}{us:List AV}{K K':AV->Hp->Prop}(h:au P f us H K)(hk:∀u H,K u H->K' u H):au P f us H K':=
 ⟨h.1,λρ w vals h1 h2=>(h.2 ρ w vals h1 h2).mono λ_ _ ⟨x,ρ',u,H',a,b,c,d,e⟩=>⟨x,ρ',u,H',a,b,c,d,hk _ _ e⟩⟩
inductive yF (P:Program) (T:Sl) (H:Hp):ResultVar->AV->Prop
 |tmp (t:Nat):yF P T H (.tmp t) (T t)
 |cell (a t id e:Nat) (l:List AV) (h1:T a=.ptr id 0) (h2:H id=some (.box e l)) (hd:∃d,P.underlying t=some d/\(match d with| .struct _| .array _ _=>true|_=>false)=true) (hs:(P.info? t).map (·.size)=some l.length):yF P T H (.cell a t) (.agg l)
 |cell1 (a t id e:Nat) (u:AV) (h1:T a=.ptr id 0) (h2:H id=some (.box e [u])) (hd:∃d,P.underlying t=some d/\(match d with| .struct _| .array _ _=>true|_=>false)=false):yF P T H (.cell a t) u
def PM(P:Program)(T:Sl)(H:Hp)(fn:Func)(u:AV):Prop:=
 (∃r,fn.results= #[r]/\yF P T H r u)\/(∃rs us,fn.results=List.toArray rs/\rs.length≠1/\u=.kM us/\rs.length=us.length/\∀(j:Nat) r v,rs[j]? =some r->us[j]? =some v->yF P T H r v)
theorem kN{ρ:gz}{w:World}{id e:Nat}{l:List AV}{x:Value}{off:Nat}(h:dN ρ H w)(h2:H id=some (.box e l))(hr:dU (bF ρ H) ρ w (.ptr id off) x):
 ∃g vals,x=.pointer (some ⟨g,off,none⟩)/\ρ id=some (.pointer (some ⟨g,0,none⟩))/\w.heap[g]? =some (.cells (List.toArray vals) e (0,0))/\aX (bF ρ H) ρ w l vals:=by
 obtain⟨v,hv,g,vals,rfl,hg,hc⟩:=h.ob id _ h2
 cases hr with
 |ptr _ _ g' x' hx hx'=>
  rw[hv] at hx
  cases hx
  rcases hx' with h3|⟨_,_,h3⟩
  ·cases h3
   exact⟨g,vals,rfl,hv,hg,hc⟩
  ·cases h3
theorem j4{ok:Nat->Prop}{ρ:gz}{w:World}{l:List AV}{vals:List Value}(h:aX ok ρ w l vals):dU ok ρ w (.agg l) (.agg vals.toArray):=
 .agg l vals h.1 (λj u x a b=>(h.2 j u x a b).1)
def CO(tmps:Array Value):ResultVar->Sem Value
 | .tmp t=>pure (tmps.getD t undef)
 | .cell a t=>do loadVar t (<-asAddr (tmps.getD a undef))
theorem CP(fn:Func)(tmps:Array Value):results fn tmps=(do let vs <-fn.results.mapM (CO tmps);pure (if h:vs.size=1 then vs[0] else .tuple vs)):=by
 unfold results
 congr 1
theorem KJ{ρ:gz}{w:World}{a:Act}{r:ResultVar}{u:AV}(h:dN ρ H w)(hT:∀t,dU (bF ρ H) ρ w (T t) (a.tmps.getD t undef))(hr:yF P T H r u):
 ∃x,(CO a.tmps r).run P w=.ok x w/\dU (bF ρ H) ρ w u x:=by
 cases hr with
 |tmp t=>exact⟨_,rfl,hT t⟩
 |cell ad t id e l h1 h2 hd hs=>
  have:=hT ad
  rw[h1] at this
  obtain⟨g,vals,hx,_,hg,hc⟩:=kN h h2 this
  obtain⟨d,hd,hd2⟩:=hd
  refine⟨.agg vals.toArray,?_,j4 hc⟩
  simp only[CO,hx,asAddr]
  have h5:=run_loadVar_row (P:=P) w g e t vals.toArray (0,0) _ hg hd (by cases d<;>first|rfl|cases hd2) (by rw[hs,hc.1];simp)
  simpa using h5
 |cell1 ad t id e u h1 h2 hd=>
  have:=hT ad
  rw[h1] at this
  obtain⟨g,vals,hx,_,hg,hc⟩:=kN h h2 this
  obtain⟨d,hd,hd2⟩:=hd
  obtain⟨v,rfl⟩:∃v,vals=[v]:=List.length_eq_one_iff.1 (by rw[<-hc.1];rfl)
  refine⟨v,?_,(hc.2 0 u v U U).1⟩
  simp only[CO,hx,asAddr]
  have hcell:w.cell? ⟨g,0,none⟩=some v:=by simp[World.cell?,hg]
  have hu:=run_underlying (w:=w) hd
  cases d<;>simp_all[loadVar,isAgg,go_sem]
theorem au.Vq{f:FuncId}{us:List AV}{K:AV->Hp->Prop}{fn:Func}{c:Code}(hf:P.funcs[f]? =some fn)(hname:(fn.name== "runtime.NumGoroutine")=false)(hb:fn.body=some c)
 (hn:us.length+(fn.ntmps-us.length)=n) (h: @AW rd0 P n c (λe T' H'=>(match e with| .normal| .ret=>True|_=>False)/\∃u H2,PM P T' H' fn u/\Sub H2 H'/\K u H2) (λt=>us.getD t .any) H):au P f us H K:=by
 subst hn
 refine⟨⟨fn,hf,hname,by rw[hb];rfl⟩,?_⟩
 intro ρ w vals hr ha
 refine(callsIn_wide (n:=3)).1 (callsIn_of_wp_marks hf hb trivial ?_)
 have hi:Inv ⟨ρ,H,w⟩ (us.length+(fn.ntmps-us.length)) (λt=>us.getD t .any) H {tmps:=vals.toArray++Array.replicate (fn.ntmps-vals.toArray.size) undef,defers:=[]} w:=by
  refine⟨by simp[ha.1],.none,ρ,hr,Ext.refl _ _ _,λt=>?_⟩
  by_cases ht:t<us.length
  ·have h1:us[t]? =some us[t]:=List.getElem?_eq_getElem ht
   have ht':t<vals.length:=by rw[<-ha.1];exact ht
   have h2:vals[t]? =some vals[t]:=List.getElem?_eq_getElem ht'
   have h3:=ha.2 t _ _ h1 h2
   have e1:us.getD t .any=us[t]:=by simp[List.getD_eq_getElem?_getD,h1]
   have e2:(vals.toArray++Array.replicate (fn.ntmps-vals.toArray.size) undef).getD t undef=vals[t]:=by
    rw[Array.getD_eq_getD_getElem?,Array.getElem?_append_left (by simpa using ht')]
    simp[ht']
   show dU _ _ _ (us.getD t .any) _
   rw[e1,e2];exact h3
  ·have e1:us.getD t .any=.any:=by simp[List.getD_eq_getElem?_getD,List.getElem?_eq_none (Nat.le_of_not_lt ht)]
   show dU _ _ _ (us.getD t .any) _
   rw[e1];exact .any _
 refine wpIn_mono (h _ _ _ hi) ?_
 intro e a' w' hh
 have fin:∀T' H' ρ' w',dN ρ' H' w'->Ext ρ H w ρ' H' w'->(∀t,dU (bF ρ' H') ρ' w' (T' t) (a'.tmps.getD t undef))->(∃u H2,PM P T' H' fn u/\Sub H2 H'/\K u H2)->
  ∃v,(results fn a'.tmps).run P w'=.ok v w'/\∃x ρ' u H',Ending.returned v=.returned x/\dN ρ' H' w'/\Ext ρ H w ρ' H' w'/\dU (bF ρ' H') ρ' w' u x/\K u H':=by
  intro T' H' ρ' w' h1 h2 h3 ⟨u,H2,hres,hs,hK⟩
  have hE:=Ext.drop (ρ:=ρ') hs w'
  rcases hres with ⟨r,hr1,hr2⟩|⟨rs,lT,hr1,hlen,rfl,hl,hr2⟩
  ·obtain⟨x,hx,hrep⟩:=KJ (a:=a') h1 h3 hr2
   refine⟨x,?_,x,ρ',u,H2,rfl,h1.drop hs,h2.trans hE,hE.rep hrep,hK⟩
   rw[CP,hr1]
   simp[go_sem,hx]
  ·have hall:∀(rs:List ResultVar) (lT:List AV),rs.length=lT.length->(∀(j:Nat) r v,rs[j]? =some r->lT[j]? =some v->yF P T' H' r v)->
    ∃xs:List Value,(rs.mapM (CO a'.tmps)).run P w'=Result.ok xs w'/\lT.length=xs.length/\∀(j:Nat) v x,lT[j]? =some v->xs[j]? =some x->dU (bF ρ' H') ρ' w' v x:=by
    intro rs
    induction rs with
    |nil=>intro lT hl _;cases lT with|nil=>exact⟨[],rfl,rfl,λj v x h=>by simp at h⟩|cons _ _=>simp at hl
    |cons r rs ih=>
     intro lT hl hr
     cases lT with
     |nil=>simp at hl
     |cons u0 lT=>
      obtain⟨x,hx,hrep⟩:=KJ (a:=a') h1 h3 (hr 0 r u0 rfl rfl)
      obtain⟨xs,hxs,hl2,Gf⟩:=ih lT (by simpa using hl) (λj r v hj hv=>hr (j+1) r v (by simpa using hj) (by simpa using hv))
      refine⟨x::xs,?_,by simp[hl2],λj v y hv hy=>?_⟩
      ·rw[List.mapM_cons]
       simp[go_sem,hx,hxs]
      ·cases j with
       |zero=>simp at hv hy;subst hv hy;exact hrep
       |succ j=>exact Gf j v y (by simpa using hv) (by simpa using hy)
   obtain⟨xs,hxs,hl2,Gf⟩:=hall rs lT hl hr2
   refine⟨.tuple xs.toArray,?_,_,ρ',.kM lT,H2,rfl,h1.drop hs,h2.trans hE,hE.rep (.kM lT xs hl2 Gf),hK⟩
   rw[CP,hr1,List.mapM_toArray]
   have:xs.length≠1:=by rw[<-hl2,<-hl];exact hlen
   simp[go_sem,hxs,this]
 have fin2:∀T' H' w',Inv ⟨ρ,H,w⟩ (us.length+(fn.ntmps-us.length)) T' H' a' w'->(∃u H2,PM P T' H' fn u/\Sub H2 H'/\K u H2)->
  LeavesInM Fence.wide 3 P fn a'.tmps (λe w'=>∃x ρ' u H',e=.returned x/\dN ρ' H' w'/\Ext ρ H w ρ' H' w'/\dU (bF ρ' H') ρ' w' u x/\K u H') a'.defers .returning w':=by
  intro T' H' w' hi' hq
  obtain⟨ρ',h1,h2,h3⟩:=hi'.rel
  obtain⟨Ds,hd,hnd,hD⟩:=hi'.defers
  rw[hd]
  clear hd hi'
  induction Ds generalizing w' with
  |nil=>exact fin T' H' ρ' w' h1 h2 h3 hq
  |cons D Ds ih=>
   have hD0:=hD D (List.mem_cons_self ..)
   have k:=Nb h1 hD0.2
   refine⟨by simp,.inl ⟨D,_,rfl,run_takeDeferred hD0.2,?_⟩⟩
   refine ih _ (h1.off k) ⟨k.os.trans h2.os,k.tape.trans h2.tape,k.output.trans h2.output,Nat.le_trans h2.size k.size,λj hj hn=>?_,h2.own,h2.KF⟩ (λt=>(h3 t).off k.cell k.size) (List.nodup_cons.1 hnd).2 (λD' hD'=>⟨(hD D' (List.mem_cons_of_mem _ hD')).1,?_⟩)
   ·rw[World.putObj_heap_other (λe=>by subst e;exact absurd hj (by have:w.heap.size<=j:=hD0.1;omega))]
    exact h2.block j hj hn
   ·rw[World.putObj_heap_other (λe=>by subst e;exact(List.nodup_cons.1 hnd).1 hD')]
    exact(hD D' (List.mem_cons_of_mem _ hD')).2
 cases e with
 |normal=>obtain⟨T',H',hi',_,hq⟩:=hh;exact fin2 T' H' _ hi' hq
 |ret=>obtain⟨T',H',hi',_,hq⟩:=hh;exact fin2 T' H' _ hi' hq
 |exit id=>obtain⟨T',H',hi',hf,_⟩:=hh;exact hf.elim
 |goto l=>obtain⟨T',H',hi',hf,_⟩:=hh;exact hf.elim
 |panic ch=>exact hh.elim
 |outgrown=>exact hh.elim
end
section
variable {P:Program} {n:Nat} {T:Sl} {H:Hp} {ops:Array Oper} {o:Oper} {K:AV->Hp->Prop}
theorem Does.move{x:Operand}(hg:o.guard=none)(ho:o.op=.move x)(hk:K (ev T x) H):Does P n ops o T H K:=
 Does.val _ hg (λa w ρ _ hr=>⟨a.eval x,by simp[execOp,ho,go_sem],hr x⟩) hk
theorem Does.assign{x:Operand}(hg:o.guard=none)(ho:o.op=.assign x)(hk:K (ev T x) H):Does P n ops o T H K:=
 Does.val _ hg (λa w ρ _ hr=>⟨a.eval x,by simp[execOp,ho,go_sem],hr x⟩) hk
theorem ik(w:World)(o:Obj):Below w.heap.size w (w.alloc o):=(Below.refl _ _).alloc (Nat.le_refl _) o
theorem heap_alloc_new(w:World)(o:Obj):(w.alloc o).heap[w.heap.size]? =some o:=by unfold World.alloc;simp
theorem size_alloc(w:World)(o:Obj):(w.alloc o).heap.size=w.heap.size+1:=by unfold World.alloc;simp
theorem Does.yG{T:Sl}(hg:o.guard=none)
 (h:∀(a:Act) (w:World) (ρ:gz),dN ρ H w->(∀x:Operand,dU (bF ρ H) ρ w (ev T x) (a.eval x))->∃x v w' ob,(execOp a.eval o).run P w=.ok (.value x) w'/\Below w.heap.size w w'/\(∀k,blk v=some k->w.heap.size<=k/\k<w'.heap.size)/\
   (∀ρ' H',Ext ρ H w ρ' H' w'->nJ (bF ρ' H') ρ' w' v ob)/\(∀id,H id=none->∃u,(∀ok' ρ',ρ' id=some v->dU ok' ρ' w' u x)/\K u (set H id (some ob)))):Does P n ops o T H K:=by
 intro a w ρ h1 h2 h3 h4 N Q hN
 rw[if_pos (by simp[Region.wanted,hg])]
 obtain⟨x,v,w',ob,hx,hb,hv,iD,hu⟩:=h a w ρ h3 (gP h4)
 obtain⟨id,ρ',e1,e2,e3,e4,e5⟩:=h3.new v ob hb hv iD
 obtain⟨u,hu1,hu2⟩:=hu id e2
 unfold Oper.wp
 rw[hx]
 exact hN x w' ρ' u _ e4 e5 (hu1 _ _ e3) hu2
def flat:AV->List AV
 | .agg l=>l
 |u=>[u]
def aR:AV->Bool
 | .agg _| .kM _| .any=>false
 | .v x=>x.oneCell'
 |_=>true
theorem CQ{ok:Nat->Prop}{ρ:gz}{w:World}{u:AV}{x:Value}(h:dU ok ρ w u x)(hu:aR u=true):x.oneCell'=true:=by
 cases h<;>simp_all[aR,Value.oneCell']
theorem cells_one{x:Value}(h:x.oneCell'=true):x.cells= #[x]:=by cases x<;>simp_all[Value.oneCell',Value.cells]
theorem CR{ok:Nat->Prop}{ρ:gz}{w:World}{u:AV}{x:Value}(h:dU ok ρ w u x)(hu:(flat u).all aR=true):aX ok ρ w (flat u) x.cells.toList:=by
 have one:∀{u:AV},dU ok ρ w u x->flat u=[u]->aR u=true->aX ok ρ w (flat u) x.cells.toList:=by
  intro u h hf hc
  have h1:=CQ h hc
  rw[hf,cells_one h1]
  exact⟨rfl,λj u' x' hu hx=>by
   cases j with
   |zero=>simp at hu hx;subst hu hx;exact⟨h,h1⟩
   |succ j=>simp at hu⟩
 cases h with
 |agg l vs hl hr=>
  refine⟨by simpa[flat,Value.cells] using hl,λj u x h1 h2=>?_⟩
  have h3:vs[j]? =some x:=by simpa[Value.cells] using h2
  have h4:=hr j u x h1 h3
  exact⟨h4,CQ h4 (List.all_eq_true.1 hu u (List.mem_of_getElem? h1))⟩
 |kM l vs hl hr=>simp[flat,aR] at hu
 |any x=>simp[flat,aR] at hu
 |v x=>exact one (.v x) U (by simpa[flat] using hu)
 |nil=>exact one .nil U U
 |sl rows a cap sz vals h1 h2 h3 h4 h5 h6=>exact one (.sl rows a cap sz vals h1 h2 h3 h4 h5 h6) U U
 |rp cells a vals h1 h2 h3=>exact one (.rp cells a vals h1 h2 h3) U U
 |lW id sz h=>exact one (.lW id sz h) U U
 |own id off len sz g n cap h h1 h2=>exact one (.own id off len sz g n cap h h1 h2) U U
 |nP id off sz g n cap o' c' h h0 hm=>exact one (.nP id off sz g n cap o' c' h h0 hm) U U
 |ptr id off g x h hx=>exact one (.ptr id off g x h hx) U U
 |gN f bS vs h1 h2=>exact one (.gN f bS vs h1 h2) U U
 |Zp t u x h=>exact one (.Zp t u x h) U U
 |KE id off len g cap h h1 h2=>exact one (.KE id off len g cap h h1 h2) U U
 |mpr id g h=>exact one (.mpr id g h) U U
theorem PN{ρ:gz}{w:World}{cs:Array Value}{t:Nat}(w':World)(hw:w'=w.alloc (.cells cs t)){us:List AV}(h:aX (bF ρ H) ρ w us cs.toList):
 ∀ρ' H',Ext ρ H w ρ' H' w'->nJ (bF ρ' H') ρ' w' (.pointer (some ⟨w.heap.size,0,none⟩)) (.box t us):=by
 intro ρ' H' e
 subst hw
 exact⟨w.heap.size,cs.toList,rfl,by simpa using heap_alloc_new w _,e.cells h⟩
theorem Does.box{e:TypeId}{x:Operand}(hg:o.guard=none)(ho:o.op=.box e x)(hc:(flat (ev T x)).all aR=true)
 (hk:∀id,H id=none->K (.ptr id 0) (set H id (some (.box e (flat (ev T x)))))):Does P n ops o T H K:=by
 refine Does.yG hg λa w ρ h hr=>?_
 refine⟨.pointer (some ⟨w.heap.size,0,none⟩),.pointer (some ⟨w.heap.size,0,none⟩),w.alloc (.cells (a.eval x).cells e),.box e (flat (ev T x)),?_,ik _ _,?_,PN _ U (CR (hr x) hc),?_⟩
 ·simp[execOp,ho,go_sem,Instr.box,newVar,newRow]
 ·intro k hk;cases hk;rw[size_alloc];simp
 ·intro id hid
  exact⟨.ptr id 0,λok' ρ' h=> .ptr id 0 _ _ h (.inl U),hk id hid⟩
theorem jG{ok:Nat->Prop}{ρ:gz}{w:World}(vs:List Value)(h:vs.all (·.oneCell')=true):aX ok ρ w (vs.map .v) vs:=
 ⟨by simp,λj u x h1 h2=>by
   rw[List.getElem?_map,h2] at h1
   cases h1
   exact⟨.v x,List.all_eq_true.1 h x (List.mem_of_getElem? h2)⟩⟩
theorem Does.alloc{e:TypeId}{z:Value}(hg:o.guard=none)(ho:o.op=.alloc e)(hz:(P.info? e).map (·.zero)=some (some z))(hc:z.cells.toList.all (·.oneCell')=true)
 (hk:∀id,H id=none->K (.ptr id 0) (set H id (some (.box e (z.cells.toList.map .v))))):Does P n ops o T H K:=by
 refine Does.yG hg λa w ρ h hr=>?_
 refine⟨.pointer (some ⟨w.heap.size,0,none⟩),.pointer (some ⟨w.heap.size,0,none⟩),w.alloc (.cells z.cells e),.box e (z.cells.toList.map .v),?_,ik _ _,?_,PN _ U (jG _ hc),?_⟩
 ·obtain⟨i,hi,hz⟩:=Option.map_eq_some_iff.1 hz
  simp[execOp,ho,go_sem,Instr.alloc,newVar,newRow,zeroValue,typeInfo,hi,hz]
 ·intro k hk;cases hk;rw[size_alloc];simp
 ·intro id hid
  exact⟨.ptr id 0,λok' ρ' h=> .ptr id 0 _ _ h (.inl U),hk id hid⟩
def cellsOf:Ob->List AV
 | .box _ l=>l
 | .row _ _ rows=>rows.flatten
 | .iter _ _=>[]
 | .jA _ _ rows _=>rows.flatten
 | .raw _ _=>[]
 | .mp _=>[]
 | .yE _ _ _=>[]
def Gg:Ob->Bool
 | .iter _ _=>false
 | .jA _ _ _ _=>false
 | .raw _ _=>false
 | .mp _=>false
 | .yE _ _ _=>false
 |_=>true
theorem zY{ρ:gz}{w:World}{id off:Nat}{ob:Ob}{x:Value}(h:dN ρ H w)(h2:H id=some ob)(hr:dU (bF ρ H) ρ w (.ptr id off) x)(hm:Gg ob=true:=by rfl):
 ∃g vals v,x=.pointer (some ⟨g,off,none⟩)/\ρ id=some v/\blk v=some g/\aX (bF ρ H) ρ w (cellsOf ob) vals/\(∀j y,vals[j]? =some y->w.cell? ⟨g,j,none⟩=some y)/\(∃cur t,w.heap[g]? =some (.cells cur t (0,0))/\cur.toList.take vals.length=vals):=by
 obtain⟨v,hv,iD⟩:=h.ob id _ h2
 cases hr with
 |ptr _ _ g' x' hx hx'=>
  rw[hv] at hx
  cases hx
  cases ob with
  |iter s pos=>cases hm
  |jA _ _ _ _=>cases hm
  |raw _ _=>cases hm
  |mp _=>cases hm
  |yE _ _ _=>cases hm
  |box t l=>
   obtain⟨g,vals,rfl,hg,hc⟩:=iD
   rcases hx' with h3|⟨_,_,h3⟩
   ·cases h3
    exact⟨_,vals,_,rfl,hv,rfl,hc,λj y hj=>by simp[World.cell?,hg,hj],_,_,hg,by simp⟩
   ·cases h3
  |row e sz rows=>
   obtain⟨h0,inner,ho,hl,hc⟩:=iD
   rcases hx' with h3|⟨_,_,h3⟩
   ·subst h3
    rcases ho.2 with ⟨h4,_⟩|⟨_,_,_,h4,_⟩<;>cases h4
   ·subst h3
    rcases ho.2 with ⟨h4,_⟩|⟨g,cap,cur,h4,_,hg,h5,h6,h7,h8⟩
    ·cases h4
    ·cases h4
     refine⟨_,inner,_,rfl,hv,rfl,hc,λj y hj=>?_,cur,e,hg,by rw[<-h8,List.length_take];simp⟩
     have hj2:cur[j]? =some y:=by
      rw[<-h8,List.getElem?_take] at hj
      split at hj
      ·simpa using hj
      ·cases hj
     simp[World.cell?,hg,hj2]
def zZ:TypeDesc->Bool
 | .struct _| .array _ _=>true
 |_=>false
def dY(P:Program)(t:TypeId):Option (Bool×Nat):=
 match P.underlying t,P.info? t with
 |some d,some i=>some (zZ d,i.size)
 |_,_=>none
theorem qI{t:TypeId}{b:Bool}{s:Nat}(h:dY P t=some (b,s)):∃d i,P.underlying t=some d/\P.info? t=some i/\zZ d=b/\i.size=s:=by
 unfold dY at h
 split at h
 ·cases h;exact⟨_,_,by assumption,by assumption,rfl,rfl⟩
 ·cases h
theorem pX{t:TypeId}{w:World}{a:Addr}{vs:List Value}(ht:dY P t=some (true,vs.length))(hc:∀j v,vs[j]? =some v->w.cell? (a.add j)=some v):
 (loadVar t a).run P w=.ok (.agg vs.toArray) w:=by
 obtain⟨d,i,hd,hi,hb,hs⟩:=qI ht
 have h1:=run_underlying (w:=w) hd
 have h2:=run_loadCells_list (P:=P) (w:=w) a vs hc
 have h3:(isAgg t).run P w=.ok true w:=by
  cases d<;>simp_all[isAgg,zZ,go_sem]
 have h4:(sizeOf t).run P w=.ok vs.length w:=by simp[sizeOf,typeInfo,hi,hs,go_sem]
 unfold loadVar
 simp only[Sem.run_bind,h3,Result.andThen_ok,if_true,h4,h2,Sem.run_pure]
theorem ug{t:TypeId}{s:Nat}{w:World}{a:Addr}{v:Value}(ht:dY P t=some (false,s))(hc:w.cell? a=some v):
 (loadVar t a).run P w=.ok v w:=by
 obtain⟨d,i,hd,hi,hb,hs⟩:=qI ht
 have h1:=run_underlying (w:=w) hd
 have h3:(isAgg t).run P w=.ok false w:=by
  cases d<;>simp_all[isAgg,zZ,go_sem]
 unfold loadVar
 simp only[Sem.run_bind,h3,Result.andThen_ok,Bool.false_eq_true,if_false]
 simp[go_sem,hc]
theorem pY{a:Act}{w:World}{t:TypeId}{x:Operand}{ad:Addr}{v:Value}(ho:o.op=.load t x)(hx:a.eval x=.pointer (some ad))(h5:(loadVar t ad).run P w=.ok v w):(execOp a.eval o).run P w=.ok (.value v) w:=by
 unfold execOp
 rw[ho]
 simp only[Instr.loadAt,Instr.sureAddr,hx,Sem.run_bind,Sem.run_pure,Result.andThen_ok,h5]
theorem kZ{ok:Nat->Prop}{ρ:gz}{w:World}{us:List AV}{xs:List Value}(h:aX ok ρ w us xs){j:Nat}{u:AV}(hj:us[j]? =some u):∃x,xs[j]? =some x/\dU ok ρ w u x/\x.oneCell'=true:=by
 have hlt:j<xs.length:=by rw[<-h.1];exact(List.getElem?_eq_some_iff.1 hj).1
 have hx:=List.getElem?_eq_getElem hlt
 exact⟨_,hx,h.2 j u _ hj hx⟩
theorem fq{ok:Nat->Prop}{ρ:gz}{w:World}{us:List AV}{xs:List Value}(h:aX ok ρ w us xs)(off s:Nat):aX ok ρ w ((us.drop off).take s) ((xs.drop off).take s):=
 ⟨by simp[h.1],λj u x h1 h2=>by
   rw[List.getElem?_take] at h1 h2
   split at h1
   ·rename_i hj
    rw[if_pos hj] at h2
    rw[List.getElem?_drop] at h1 h2
    exact h.2 _ u x h1 h2
   ·cases h1⟩
theorem Does.uz{t:TypeId}{x:Operand}{id off:Nat}{ob:Ob}{s:Nat}(hg:o.guard=none)(ho:o.op=.load t x)(hx:ev T x=.ptr id off)(h2:H id=some ob)
 (ht:dY P t=some (true,s)) (hs:off+s<=(cellsOf ob).length) (hk:K (.agg (((cellsOf ob).drop off).take s)) H) (hm:Gg ob=true:=by rfl):Does P n ops o T H K:=by
 refine Does.val _ hg (λa w ρ h hr=>?_) hk
 have h3:=hr x
 rw[hx] at h3
 obtain⟨g,vals,v,hx2,_,_,hc,hcell,_⟩:=zY h h2 h3 hm
 have hl:((vals.drop off).take s).length=s:=by simp[<-hc.1];omega
 refine⟨.agg ((vals.drop off).take s).toArray,?_,j4 (fq hc off s)⟩
 have h5:=pX (P:=P) (t:=t) (w:=w) (a:=⟨g,off,none⟩) (vs:=(vals.drop off).take s) (by rw[hl];exact ht) (λj y hj=>by
  rw[add_plain]
  rw[List.getElem?_take] at hj
  split at hj
  ·rw[List.getElem?_drop] at hj;exact hcell _ _ hj
  ·cases hj)
 exact pY ho hx2 h5
theorem Does.nX{t:TypeId}{x:Operand}{id off:Nat}{ob:Ob}{s:Nat}{u:AV}(hg:o.guard=none)(ho:o.op=.load t x)(hx:ev T x=.ptr id off)(h2:H id=some ob)
 (ht:dY P t=some (false,s)) (hs:(cellsOf ob)[off]? =some u) (hk:K u H) (hm:Gg ob=true:=by rfl):Does P n ops o T H K:=by
 refine Does.val _ hg (λa w ρ h hr=>?_) hk
 have h3:=hr x
 rw[hx] at h3
 obtain⟨g,vals,v,hx2,_,_,hc,hcell,_⟩:=zY h h2 h3 hm
 obtain⟨y,hy,hrep,_⟩:=kZ hc hs
 refine⟨y,?_,hrep⟩
 have h5:=ug (P:=P) (t:=t) (w:=w) (a:=⟨g,off,none⟩) ht (hcell off y hy)
 exact pY ho hx2 h5
theorem KL{ok:Nat->Prop}{ρ:gz}{w:World}{cells:List AV}{x:Value}(hr:dU ok ρ w (.rp cells) x):
 ∃a vals,x=.pointer (some a)/\aX ok ρ w cells vals/\∀j y,vals[j]? =some y->w.cell? (a.add j)=some y:=by
 cases hr with
 |rp _ a vals hok hc hr=>
  refine⟨a,(List.range cells.length).map vals,rfl,⟨by simp,λj u x h1 h2=>?_⟩,λj y hj=>?_⟩
  ·have hlt:=(List.getElem?_eq_some_iff.1 h1).1
   simp[hlt] at h2
   subst h2
   exact⟨hr j u h1,(hc j hlt).2⟩
  ·have hlt:j<cells.length:=by have:=(List.getElem?_eq_some_iff.1 hj).1;simpa using this
   have h1:vals j=y:=by simpa[hlt] using hj
   subst h1
   exact(hc j hlt).1
theorem Does.fB{t:TypeId}{x:Operand}{cells:List AV}(hg:o.guard=none)(ho:o.op=.load t x)(hx:ev T x=.rp cells)
 (ht:dY P t=some (true,cells.length)) (hk:K (.agg cells) H):Does P n ops o T H K:=by
 refine Does.val _ hg (λa w ρ h hr=>?_) hk
 have h3:=hr x
 rw[hx] at h3
 obtain⟨ad,vals,hx2,hc,hcell⟩:=KL h3
 refine⟨.agg vals.toArray,?_,j4 hc⟩
 have h5:=pX (P:=P) (t:=t) (w:=w) (a:=ad) (vs:=vals) (by rw[<-hc.1];exact ht) hcell
 exact pY ho hx2 h5
theorem add_zero'(a:Addr):a.add 0=a:=by simp[Addr.add]
theorem Does.bD{t:TypeId}{x:Operand}{u:AV}{cells:List AV}{s:Nat}(hg:o.guard=none)(ho:o.op=.load t x)(hx:ev T x=.rp (u::cells))
 (ht:dY P t=some (false,s)) (hk:K u H):Does P n ops o T H K:=by
 refine Does.val _ hg (λa w ρ h hr=>?_) hk
 have h3:=hr x
 rw[hx] at h3
 obtain⟨ad,vals,hx2,hc,hcell⟩:=KL h3
 obtain⟨y,hy,hrep,_⟩:=kZ hc (j:=0) rfl
 refine⟨y,?_,hrep⟩
 have h6:=hcell 0 y hy
 rw[add_zero'] at h6
 have h5:=ug (P:=P) (t:=t) (w:=w) (a:=ad) ht h6
 exact pY ho hx2 h5
end
end Go.fT
end
