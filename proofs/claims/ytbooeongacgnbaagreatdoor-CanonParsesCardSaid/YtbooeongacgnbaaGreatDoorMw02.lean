/- A part of the proof. -/
import Derived.Test.YtbooeongacgnbaaGreatDoorMw01
set_option maxRecDepth 100000
set_option maxHeartbeats 4000000
set_option linter.unusedSectionVars false
set_option linter.unusedVariables false
set_option linter.unusedSimpArgs false
section
namespace Go.gW
open Go Go.RowKit
section
variable {P:Program} {n:Nat} {T:Sl} {H:Hp} {ops:Array Oper} {o:Oper} {K:AV->Hp->Prop}
theorem Does.move{x:Operand}(hg:o.guard=none)(ho:o.op=.move x)(hk:K (ev T x) H):Does P n ops o T H K:=
 Does.val _ hg (λa w ρ _ hr=>⟨a.eval x,by simp[execOp,ho,go_sem],hr x⟩) hk
theorem Does.assign{x:Operand}(hg:o.guard=none)(ho:o.op=.assign x)(hk:K (ev T x) H):Does P n ops o T H K:=
 Does.val _ hg (λa w ρ _ hr=>⟨a.eval x,by simp[execOp,ho,go_sem],hr x⟩) hk
theorem iF(w:World)(o:Obj):Below w.heap.size w (w.alloc o):=(Below.refl _ _).alloc (Nat.le_refl _) o
theorem heap_alloc_new(w:World)(o:Obj):(w.alloc o).heap[w.heap.size]? =some o:=by unfold World.alloc;simp
theorem size_alloc(w:World)(o:Obj):(w.alloc o).heap.size=w.heap.size+1:=by unfold World.alloc;simp
theorem Does.zJ{T:Sl}(hg:o.guard=none)
 (h:∀(a:Act) (w:World) (ρ:fK),dG ρ H w->(∀x:Operand,dL (bK ρ H) ρ w (ev T x) (a.eval x))->∃x v w' ob,(execOp a.eval o).run P w=.ok (.value x) w'/\Below w.heap.size w w'/\(∀k,blk v=some k->w.heap.size<=k/\k<w'.heap.size)/\
   (∀ρ' H',Ext ρ H w ρ' H' w'->lM (bK ρ' H') ρ' w' v ob)/\(∀id,H id=none->∃u,(∀ok' ρ',ρ' id=some v->dL ok' ρ' w' u x)/\K u (set H id (some ob)))):Does P n ops o T H K:=by
 intro a w ρ h1 h2 h3 h4 N Q hN
 rw[if_pos (by simp[Region.wanted,hg])]
 obtain⟨x,v,w',ob,hx,hb,hv,jd,hu⟩:=h a w ρ h3 (iA h4)
 obtain⟨id,ρ',e1,e2,e3,e4,e5⟩:=h3.new v ob hb hv jd
 obtain⟨u,hu1,hu2⟩:=hu id e2
 unfold Oper.wp
 rw[hx]
 exact hN x w' ρ' u _ e4 e5 (hu1 _ _ e3) hu2
def flat:AV->List AV
 | .agg l=>l
 |u=>[u]
def cK:AV->Bool
 | .agg _| .dH _| .any=>false
 | .v x=>x.oneCell'
 |_=>true
theorem zK{ok:Nat->Prop}{ρ:fK}{w:World}{u:AV}{x:Value}(h:dL ok ρ w u x)(hu:cK u=true):x.oneCell'=true:=by
 cases h<;>simp_all[cK,Value.oneCell']
theorem cells_one{x:Value}(h:x.oneCell'=true):x.cells= #[x]:=by cases x<;>simp_all[Value.oneCell',Value.cells]
theorem zL{ok:Nat->Prop}{ρ:fK}{w:World}{u:AV}{x:Value}(h:dL ok ρ w u x)(hu:(flat u).all cK=true):aZ ok ρ w (flat u) x.cells.toList:=by
 have one:∀{u:AV},dL ok ρ w u x->flat u=[u]->cK u=true->aZ ok ρ w (flat u) x.cells.toList:=by
  intro u h hf hc
  have h1:=zK h hc
  rw[hf,cells_one h1]
  exact⟨rfl,λj u' x' hu hx=>by
   cases j with
   |zero=>simp at hu hx;subst hu hx;exact⟨h,h1⟩
   |succ j=>simp at hu⟩
 cases h with
 |agg l vs hl hr=>
  refine⟨by simpa[flat,Value.cells] using hl,λj u x h1 h2=>?_⟩
  have h3:vs[j]? =some x:=by simpa[Value.cells] using h2
  have h4:=hr j u x h1 h3
  exact⟨h4,zK h4 (List.all_eq_true.1 hu u (List.mem_of_getElem? h1))⟩
 |dH l vs hl hr=>simp[flat,cK] at hu
 |any x=>simp[flat,cK] at hu
 |v x=>exact one (.v x) U (by simpa[flat] using hu)
 |nil=>exact one .nil U U
 |sl rows a cap sz vals h1 h2 h3 h4 h5 h6=>exact one (.sl rows a cap sz vals h1 h2 h3 h4 h5 h6) U U
 |rp cells a vals h1 h2 h3=>exact one (.rp cells a vals h1 h2 h3) U U
 |lQ id sz h=>exact one (.lQ id sz h) U U
 |own id off len sz g n cap h h1 h2=>exact one (.own id off len sz g n cap h h1 h2) U U
 |ny id off sz g n cap o' c' h h0 hm=>exact one (.ny id off sz g n cap o' c' h h0 hm) U U
 |ptr id off g x h hx=>exact one (.ptr id off g x h hx) U U
 |lW f dD vs h1 h2=>exact one (.lW f dD vs h1 h2) U U
 |zk t u x h=>exact one (.zk t u x h) U U
 |Tf id off len g cap h h1 h2=>exact one (.Tf id off len g cap h h1 h2) U U
 |mpr id g h=>exact one (.mpr id g h) U U
 |bnd f first vs h1 h2=>exact one (.bnd f first vs h1 h2) U U
theorem KV{ρ:fK}{w:World}{cs:Array Value}{t:Nat}(w':World)(hw:w'=w.alloc (.cells cs t)){us:List AV}(h:aZ (bK ρ H) ρ w us cs.toList):
 ∀ρ' H',Ext ρ H w ρ' H' w'->lM (bK ρ' H') ρ' w' (.pointer (some ⟨w.heap.size,0,none⟩)) (.box t us):=by
 intro ρ' H' e
 subst hw
 exact⟨w.heap.size,cs.toList,rfl,by simpa using heap_alloc_new w _,e.cells h⟩
theorem Does.box{e:TypeId}{x:Operand}(hg:o.guard=none)(ho:o.op=.box e x)(hc:(flat (ev T x)).all cK=true)
 (hk:∀id,H id=none->K (.ptr id 0) (set H id (some (.box e (flat (ev T x)))))):Does P n ops o T H K:=by
 refine Does.zJ hg λa w ρ h hr=>?_
 refine⟨.pointer (some ⟨w.heap.size,0,none⟩),.pointer (some ⟨w.heap.size,0,none⟩),w.alloc (.cells (a.eval x).cells e),.box e (flat (ev T x)),?_,iF _ _,?_,KV _ U (zL (hr x) hc),?_⟩
 ·simp[execOp,ho,go_sem,Instr.box,newVar,newRow]
 ·intro k hk;cases hk;rw[size_alloc];simp
 ·intro id hid
  exact⟨.ptr id 0,λok' ρ' h=> .ptr id 0 _ _ h (.inl U),hk id hid⟩
theorem kz{ok:Nat->Prop}{ρ:fK}{w:World}(vs:List Value)(h:vs.all (·.oneCell')=true):aZ ok ρ w (vs.map .v) vs:=
 ⟨by simp,λj u x h1 h2=>by
   rw[List.getElem?_map,h2] at h1
   cases h1
   exact⟨.v x,List.all_eq_true.1 h x (List.mem_of_getElem? h2)⟩⟩
theorem Does.alloc{e:TypeId}{z:Value}(hg:o.guard=none)(ho:o.op=.alloc e)(hz:(P.info? e).map (·.zero)=some (some z))(hc:z.cells.toList.all (·.oneCell')=true)
 (hk:∀id,H id=none->K (.ptr id 0) (set H id (some (.box e (z.cells.toList.map .v))))):Does P n ops o T H K:=by
 refine Does.zJ hg λa w ρ h hr=>?_
 refine⟨.pointer (some ⟨w.heap.size,0,none⟩),.pointer (some ⟨w.heap.size,0,none⟩),w.alloc (.cells z.cells e),.box e (z.cells.toList.map .v),?_,iF _ _,?_,KV _ U (kz _ hc),?_⟩
 ·obtain⟨i,hi,hz⟩:=Option.map_eq_some_iff.1 hz
  simp[execOp,ho,go_sem,Instr.alloc,newVar,newRow,zeroValue,typeInfo,hi,hz]
 ·intro k hk;cases hk;rw[size_alloc];simp
 ·intro id hid
  exact⟨.ptr id 0,λok' ρ' h=> .ptr id 0 _ _ h (.inl U),hk id hid⟩
def cellsOf:Ob->List AV
 | .box _ l=>l
 | .row _ _ rows=>rows.flatten
 | .iter _ _=>[]
 | .iP _ _ rows _=>rows.flatten
 | .raw _ _=>[]
 | .mp _=>[]
 | .xE _ _ _=>[]
def F9:Ob->Bool
 | .iter _ _=>false
 | .iP _ _ _ _=>false
 | .raw _ _=>false
 | .mp _=>false
 | .xE _ _ _=>false
 |_=>true
theorem xL{ρ:fK}{w:World}{id off:Nat}{ob:Ob}{x:Value}(h:dG ρ H w)(h2:H id=some ob)(hr:dL (bK ρ H) ρ w (.ptr id off) x)(hm:F9 ob=true:=by rfl):
 ∃g vals v,x=.pointer (some ⟨g,off,none⟩)/\ρ id=some v/\blk v=some g/\aZ (bK ρ H) ρ w (cellsOf ob) vals/\(∀j y,vals[j]? =some y->w.cell? ⟨g,j,none⟩=some y)/\(∃cur t,w.heap[g]? =some (.cells cur t (0,0))/\cur.toList.take vals.length=vals):=by
 obtain⟨v,hv,jd⟩:=h.ob id _ h2
 cases hr with
 |ptr _ _ g' x' hx hx'=>
  rw[hv] at hx
  cases hx
  cases ob with
  |iter s pos=>cases hm
  |iP _ _ _ _=>cases hm
  |raw _ _=>cases hm
  |mp _=>cases hm
  |xE _ _ _=>cases hm
  |box t l=>
   obtain⟨g,vals,rfl,hg,hc⟩:=jd
   rcases hx' with h3|⟨_,_,h3⟩
   ·cases h3
    exact⟨_,vals,_,rfl,hv,rfl,hc,λj y hj=>by simp[World.cell?,hg,hj],_,_,hg,by simp⟩
   ·cases h3
  |row e sz rows=>
   obtain⟨h0,inner,ho,hl,hc⟩:=jd
   rcases hx' with h3|⟨_,_,h3⟩
   ·subst h3
    rcases ho.2 with ⟨h4,_⟩|⟨_,_,_,h4,_⟩<;>cases h4
   ·subst h3
    rcases ho.2 with ⟨h4,_⟩|⟨g,cap,cur,h4,_,hg,h5,h6,h7,h8⟩
    ·cases h4
    ·cases h4
     refine⟨_,inner,_,rfl,hv,rfl,hc,λj y hj=>?_,cur,e,hg,by rw[<-h8,List.length_take];simp⟩
     have hj2:cur[j]? =some y:=by
      rw[<-h8,List.getElem?_take] at hj
      split at hj
      ·simpa using hj
      ·cases hj
     simp[World.cell?,hg,hj2]
def DR:TypeDesc->Bool
 | .struct _| .array _ _=>true
 |_=>false
def eQ(P:Program)(t:TypeId):Option (Bool×Nat):=
 match P.underlying t,P.info? t with
 |some d,some i=>some (DR d,i.size)
 |_,_=>none
theorem xM{t:TypeId}{b:Bool}{s:Nat}(h:eQ P t=some (b,s)):∃d i,P.underlying t=some d/\P.info? t=some i/\DR d=b/\i.size=s:=by
 unfold eQ at h
 split at h
 ·cases h;exact⟨_,_,by assumption,by assumption,rfl,rfl⟩
 ·cases h
theorem nC{t:TypeId}{w:World}{a:Addr}{vs:List Value}(ht:eQ P t=some (true,vs.length))(hc:∀j v,vs[j]? =some v->w.cell? (a.add j)=some v):
 (loadVar t a).run P w=.ok (.agg vs.toArray) w:=by
 obtain⟨d,i,hd,hi,hb,hs⟩:=xM ht
 have h1:=run_underlying (w:=w) hd
 have h2:=run_loadCells_list (P:=P) (w:=w) a vs hc
 have h3:(isAgg t).run P w=.ok true w:=by
  cases d<;>simp_all[isAgg,DR,go_sem]
 have h4:(sizeOf t).run P w=.ok vs.length w:=by simp[sizeOf,typeInfo,hi,hs,go_sem]
 unfold loadVar
 simp only[Sem.run_bind,h3,Result.andThen_ok,if_true,h4,h2,Sem.run_pure]
theorem lv{t:TypeId}{s:Nat}{w:World}{a:Addr}{v:Value}(ht:eQ P t=some (false,s))(hc:w.cell? a=some v):
 (loadVar t a).run P w=.ok v w:=by
 obtain⟨d,i,hd,hi,hb,hs⟩:=xM ht
 have h1:=run_underlying (w:=w) hd
 have h3:(isAgg t).run P w=.ok false w:=by
  cases d<;>simp_all[isAgg,DR,go_sem]
 unfold loadVar
 simp only[Sem.run_bind,h3,Result.andThen_ok,Bool.false_eq_true,if_false]
 simp[go_sem,hc]
theorem kU{a:Act}{w:World}{t:TypeId}{x:Operand}{ad:Addr}{v:Value}(ho:o.op=.load t x)(hx:a.eval x=.pointer (some ad))(h5:(loadVar t ad).run P w=.ok v w):(execOp a.eval o).run P w=.ok (.value v) w:=by
 unfold execOp
 rw[ho]
 simp only[Instr.loadAt,Instr.sureAddr,hx,Sem.run_bind,Sem.run_pure,Result.andThen_ok,h5]
theorem iI{ok:Nat->Prop}{ρ:fK}{w:World}{us:List AV}{xs:List Value}(h:aZ ok ρ w us xs){j:Nat}{u:AV}(hj:us[j]? =some u):∃x,xs[j]? =some x/\dL ok ρ w u x/\x.oneCell'=true:=by
 have hlt:j<xs.length:=by rw[<-h.1];exact(List.getElem?_eq_some_iff.1 hj).1
 have hx:=List.getElem?_eq_getElem hlt
 exact⟨_,hx,h.2 j u _ hj hx⟩
theorem fT{ok:Nat->Prop}{ρ:fK}{w:World}{us:List AV}{xs:List Value}(h:aZ ok ρ w us xs)(off s:Nat):aZ ok ρ w ((us.drop off).take s) ((xs.drop off).take s):=
 ⟨by simp[h.1],λj u x h1 h2=>by
   rw[List.getElem?_take] at h1 h2
   split at h1
   ·rename_i hj
    rw[if_pos hj] at h2
    rw[List.getElem?_drop] at h1 h2
    exact h.2 _ u x h1 h2
   ·cases h1⟩
theorem Does.vC{t:TypeId}{x:Operand}{id off:Nat}{ob:Ob}{s:Nat}(hg:o.guard=none)(ho:o.op=.load t x)(hx:ev T x=.ptr id off)(h2:H id=some ob)
 (ht:eQ P t=some (true,s)) (hs:off+s<=(cellsOf ob).length) (hk:K (.agg (((cellsOf ob).drop off).take s)) H) (hm:F9 ob=true:=by rfl):Does P n ops o T H K:=by
 refine Does.val _ hg (λa w ρ h hr=>?_) hk
 have h3:=hr x
 rw[hx] at h3
 obtain⟨g,vals,v,hx2,_,_,hc,hcell,_⟩:=xL h h2 h3 hm
 have hl:((vals.drop off).take s).length=s:=by simp[<-hc.1];omega
 refine⟨.agg ((vals.drop off).take s).toArray,?_,kN (fT hc off s)⟩
 have h5:=nC (P:=P) (t:=t) (w:=w) (a:=⟨g,off,none⟩) (vs:=(vals.drop off).take s) (by rw[hl];exact ht) (λj y hj=>by
  rw[add_plain]
  rw[List.getElem?_take] at hj
  split at hj
  ·rw[List.getElem?_drop] at hj;exact hcell _ _ hj
  ·cases hj)
 exact kU ho hx2 h5
theorem Does.Ch{t:TypeId}{x:Operand}{id off:Nat}{ob:Ob}{s:Nat}{u:AV}(hg:o.guard=none)(ho:o.op=.load t x)(hx:ev T x=.ptr id off)(h2:H id=some ob)
 (ht:eQ P t=some (false,s)) (hs:(cellsOf ob)[off]? =some u) (hk:K u H) (hm:F9 ob=true:=by rfl):Does P n ops o T H K:=by
 refine Does.val _ hg (λa w ρ h hr=>?_) hk
 have h3:=hr x
 rw[hx] at h3
 obtain⟨g,vals,v,hx2,_,_,hc,hcell,_⟩:=xL h h2 h3 hm
 obtain⟨y,hy,hrep,_⟩:=iI hc hs
 refine⟨y,?_,hrep⟩
 have h5:=lv (P:=P) (t:=t) (w:=w) (a:=⟨g,off,none⟩) ht (hcell off y hy)
 exact kU ho hx2 h5
theorem Ga{ok:Nat->Prop}{ρ:fK}{w:World}{cells:List AV}{x:Value}(hr:dL ok ρ w (.rp cells) x):
 ∃a vals,x=.pointer (some a)/\aZ ok ρ w cells vals/\∀j y,vals[j]? =some y->w.cell? (a.add j)=some y:=by
 cases hr with
 |rp _ a vals hok hc hr=>
  refine⟨a,(List.range cells.length).map vals,rfl,⟨by simp,λj u x h1 h2=>?_⟩,λj y hj=>?_⟩
  ·have hlt:=(List.getElem?_eq_some_iff.1 h1).1
   simp[hlt] at h2
   subst h2
   exact⟨hr j u h1,(hc j hlt).2⟩
  ·have hlt:j<cells.length:=by have:=(List.getElem?_eq_some_iff.1 hj).1;simpa using this
   have h1:vals j=y:=by simpa[hlt] using hj
   subst h1
   exact(hc j hlt).1
theorem Does.iR{t:TypeId}{x:Operand}{cells:List AV}(hg:o.guard=none)(ho:o.op=.load t x)(hx:ev T x=.rp cells)
 (ht:eQ P t=some (true,cells.length)) (hk:K (.agg cells) H):Does P n ops o T H K:=by
 refine Does.val _ hg (λa w ρ h hr=>?_) hk
 have h3:=hr x
 rw[hx] at h3
 obtain⟨ad,vals,hx2,hc,hcell⟩:=Ga h3
 refine⟨.agg vals.toArray,?_,kN hc⟩
 have h5:=nC (P:=P) (t:=t) (w:=w) (a:=ad) (vs:=vals) (by rw[<-hc.1];exact ht) hcell
 exact kU ho hx2 h5
theorem add_zero'(a:Addr):a.add 0=a:=by simp[Addr.add]
theorem Does.eZ{t:TypeId}{x:Operand}{u:AV}{cells:List AV}{s:Nat}(hg:o.guard=none)(ho:o.op=.load t x)(hx:ev T x=.rp (u::cells))
 (ht:eQ P t=some (false,s)) (hk:K u H):Does P n ops o T H K:=by
 refine Does.val _ hg (λa w ρ h hr=>?_) hk
 have h3:=hr x
 rw[hx] at h3
 obtain⟨ad,vals,hx2,hc,hcell⟩:=Ga h3
 obtain⟨y,hy,hrep,_⟩:=iI hc (j:=0) rfl
 refine⟨y,?_,hrep⟩
 have h6:=hcell 0 y hy
 rw[add_zero'] at h6
 have h5:=lv (P:=P) (t:=t) (w:=w) (a:=ad) ht h6
 exact kU ho hx2 h5
end
def gQ{α:Type}:List α->Nat->List α->List α
 |l,_,[]=>l
 |l,off,u::r=>gQ (l.set off u) (off+1) r
theorem fZ{α:Type}:∀(us l:List α) (off:Nat),(gQ l off us).length=l.length
 |[],_,_=>rfl
 |u::r,l,off=>by simp[gQ,fZ r]
theorem mi{α:Type}:∀(us l:List α) (off:Nat) (j:Nat),(gQ l off us)[j]? =if off<=j/\j<off+us.length/\j<l.length then us[j-off]? else l[j]?
 |[],l,off,j=>by
  simp only[gQ,List.length_nil]
  rw[if_neg (by omega)]
 |u::r,l,off,j=>by
  simp only[gQ,List.length_cons]
  rw[mi r]
  simp only[List.length_set]
  by_cases h1:off+1<=j/\j<off+1+r.length/\j<l.length
  ·rw[if_pos h1,if_pos (by omega)]
   have:j-off=(j-(off+1))+1:=by omega
   rw[this,List.getElem?_cons_succ]
  ·rw[if_neg h1,List.getElem?_set]
   by_cases h2:off=j
   ·subst h2
    rw[if_pos U]
    by_cases h3:off<l.length
    ·rw[if_pos h3,if_pos (by omega)];simp
    ·rw[if_neg h3,if_neg (by omega)];rw[List.getElem?_eq_none (by omega)]
   ·rw[if_neg h2,if_neg (by omega)]
theorem Ci{α:Type}(us l:List α)(off m:Nat)(h:off+us.length<=m):(gQ l off us).take m=gQ (l.take m) off us:=by
 apply List.ext_getElem?
 intro j
 rw[List.getElem?_take,mi,mi,List.getElem?_take,List.length_take]
 by_cases hj:j<m
 ·simp only[hj,if_true]
  by_cases h1:off<=j/\j<off+us.length/\j<l.length
  ·rw[if_pos h1,if_pos (by omega)]
  ·rw[if_neg h1,if_neg (by omega)]
 ·simp only[hj,if_false]
  rw[if_neg (by omega)]
theorem kP{ok:Nat->Prop}{ρ:fK}{w:World}{us:List AV}{xs:List Value}{cs:List AV}{vs:List Value}(h:aZ ok ρ w us xs)(hc:aZ ok ρ w cs vs)(off:Nat):aZ ok ρ w (gQ us off cs) (gQ xs off vs):=
 ⟨by rw[fZ,fZ,h.1],λj u x h1 h2=>by
   rw[mi] at h1 h2
   rw[<-h.1,<-hc.1] at h2
   split at h1
   ·rename_i hh
    rw[if_pos hh] at h2
    exact hc.2 _ u x h1 h2
   ·rename_i hh
    rw[if_neg hh] at h2
    exact h.2 _ u x h1 h2⟩
structure Wrote(w w':World)(g:Nat)(c:Obj):Prop where
 os:w'.os=w.os
 tape:w'.tape=w.tape
 output:w'.output=w.output
 size:w'.heap.size=w.heap.size
 block:∀k,k≠g->w'.heap[k]? =w.heap[k]?
 at_:w'.heap[g]? =some c
section
variable {P:Program} {n:Nat} {T:Sl} {H:Hp} {ops:Array Oper} {o:Oper} {K:AV->Hp->Prop}
theorem tV(g t off:Nat):∀(vs:List Value) (i:Nat) (w:World) (cur:Array Value),w.heap[g]? =some (.cells cur t (0,0))->off+i+vs.length<=cur.size->(∀v∈vs,v.oneCell'=true)->
 ∃w',(storeCells ⟨g,off,none⟩ vs i).run P w=.ok () w'/\Wrote w w' g (.cells (gQ cur.toList (off+i) vs).toArray t (0,0))
 |[],i,w,cur,hg,_,_=>⟨w,rfl,rfl,rfl,rfl,rfl,λ_ _=>rfl,by simpa[gQ] using hg⟩
 |v::r,i,w,cur,hg,hl,h1=>by
  have hlt:off+i<cur.size:=by simp at hl;omega
  have hc:w.cell? ⟨g,off+i,none⟩=some cur[off+i]:=by simp[World.cell?,hg,hlt]
  have hf:w.frozen? ⟨g,off+i,none⟩=false:=by simp[World.frozen?,hg]
  have hst:(store ((⟨g,off,none⟩:Addr).add i) v).run P w=.ok () (w.setCell ⟨g,off+i,none⟩ v):=by
   rw[add_plain,run_store P w _ v _ (h1 v (by simp)),hc]
   simp[hf]
  have hg':(w.setCell ⟨g,off+i,none⟩ v).heap[g]? =some (.cells (cur.setIfInBounds (off+i) v) t (0,0)):=by
   simp[World.setCell,Array.getElem?_modify,hg]
  obtain⟨w',hw',hx⟩:=tV g t off r (i+1) _ _ hg' (by simp at hl⊢;omega) (λu hu=>h1 u (by simp[hu]))
  refine⟨w',?_,?_⟩
  ·unfold storeCells
   simp only[Sem.run_bind,hst,Result.andThen_ok,hw']
  ·refine⟨hx.os,hx.tape,hx.output,by rw[hx.size];simp[World.setCell],λk hk=>(hx.block k hk).trans (Below.heap_setCell w _ v k hk),?_⟩
   rw[hx.at_]
   simp[gQ,Nat.add_assoc]
theorem DT{a:Act}{w w':World}{t:TypeId}{x y:Operand}{ad:Addr}{s:Nat}{b:Bool}(ho:o.op=.store t x y)(hx:a.eval x=.pointer (some ad))(ht:eQ P t=some (b,s))(hs:(a.eval y).cells.size=s)
 (h5:(storeCells ad (a.eval y).cells.toList).run P w=.ok () w'):(execOp a.eval o).run P w=.ok .skip w':=by
 obtain⟨d,i,hd,hi,hb,hsz⟩:=xM ht
 have h4:(sizeOf t).run P w=.ok s w:=by simp[sizeOf,typeInfo,hi,hsz,go_sem]
 unfold execOp
 rw[ho]
 simp only[Instr.storeAt,Instr.sureAddr,hx,Sem.run_bind,Sem.run_pure,Result.andThen_ok,storeVar,h4,hs,ne_eq,not_true,if_false,h5]
theorem Does.zM{t:TypeId}{x y:Operand}{id off:Nat}{ob zF:Ob}{b:Bool}(hg:o.guard=none)(ho:o.op=.store t x y)(hx:ev T x=.ptr id off)(h2:H id=some ob)
 (hc:(flat (ev T y)).all cK=true) (ht:eQ P t=some (b,(flat (ev T y)).length)) (hs:off+(flat (ev T y)).length<=(cellsOf ob).length)
 (jd:∀(ρ ρ':fK) (H':Hp) (w w':World) (v:Value) (g:Nat) (cur:Array Value) (tt:Nat) (vs vals:List Value),lM (bK ρ H) ρ w v ob->Ext ρ H w ρ' H' w'->blk v=some g->w.heap[g]? =some (.cells cur tt (0,0))->cur.toList.take vals.length=vals->aZ (bK ρ H) ρ w (cellsOf ob) vals->aZ (bK ρ H) ρ w (flat (ev T y)) vs->
   Wrote w w' g (.cells (gQ cur.toList off vs).toArray tt (0,0))->lM (bK ρ' H') ρ' w' v zF)
 (hk:K .any (set H id (some zF))) (hm:F9 ob=true:=by rfl):Does P n ops o T H K:=by
 intro a w ρ h1 h2' h3 h4 N Q hN
 rw[if_pos (by simp[Region.wanted,hg])]
 have hr:=iA h4
 have h5:=hr x
 rw[hx] at h5
 obtain⟨g,vals,v,hx2,hv,hbv,hcl,hcell,cur,tt,hheap,htake⟩:=xL h3 h2 h5 hm
 have hfl:=zL (hr y) hc
 have hle:vals.length<=cur.size:=by rw[<-htake,List.length_take];simp;omega
 obtain⟨w',hw',hwr⟩:=tV (P:=P) g tt off (a.eval y).cells.toList 0 w cur hheap (by rw[<-hfl.1];have:=hcl.1;omega) (λu hu=>by
  obtain⟨j,hj⟩:=List.getElem?_of_mem hu
  have hlt:j<(flat (ev T y)).length:=by rw[hfl.1];exact(List.getElem?_eq_some_iff.1 hj).1
  exact(hfl.2 j _ u (List.getElem?_eq_getElem hlt) hj).2)
 unfold Oper.wp
 rw[DT ho hx2 ht (by rw[<-Array.length_toList,<-hfl.1]) hw']
 obtain⟨v0,hv0,Ym⟩:=h3.ob id ob h2
 rw[hv] at hv0
 cases hv0
 have:=h3.write zF h2 hv hwr.os hwr.tape hwr.output (by rw[hwr.size];exact Nat.le_refl _) (λk _ hk=>hwr.block k (λe=>hk (by rw[hbv,e]))) (λρ' H' e _=>jd ρ ρ' H' w w' v g cur tt _ vals Ym e hbv hheap htake hcl hfl hwr)
 exact hN undef w' ρ .any _ this.1 this.2 (.any _) hk
theorem Does.lX{t:TypeId}{x y:Operand}{id off e:Nat}{l:List AV}{b:Bool}(hg:o.guard=none)(ho:o.op=.store t x y)(hx:ev T x=.ptr id off)(h2:H id=some (.box e l))
 (hc:(flat (ev T y)).all cK=true) (ht:eQ P t=some (b,(flat (ev T y)).length)) (hs:off+(flat (ev T y)).length<=l.length)
 (hk:K .any (set H id (some (.box e (gQ l off (flat (ev T y))))))):Does P n ops o T H K:=by
 refine Does.zM hg ho hx h2 hc ht hs ?_ hk
 intro ρ ρ' H' w w' v g cur tt vs vals jd e hbv hheap htake hcl hfl hwr
 obtain⟨g1,WN,rfl,hg1,hc1⟩:=jd
 cases hbv
 rw[hheap] at hg1
 cases hg1
 refine⟨_,gQ WN off vs,rfl,by simpa using hwr.at_,e.cells (kP hc1 hfl off)⟩
theorem Does.xN{t:TypeId}{x y:Operand}{id off e sz:Nat}{rows:List (List AV)}(rows':List (List AV)){b:Bool}(hg:o.guard=none)(ho:o.op=.store t x y)(hx:ev T x=.ptr id off)(h2:H id=some (.row e sz rows))
 (hc:(flat (ev T y)).all cK=true) (ht:eQ P t=some (b,(flat (ev T y)).length)) (hs:off+(flat (ev T y)).length<=rows.flatten.length)
 (hf:rows'.flatten=gQ rows.flatten off (flat (ev T y))) (hl:rows'.length=rows.length) (hcs:∀cs∈rows',cs.length=sz)
 (hk:K .any (set H id (some (.row e sz rows')))):Does P n ops o T H K:=by
 refine Does.zM hg ho hx h2 hc ht hs ?_ hk
 intro ρ ρ' H' w w' v g cur tt vs vals jd e' hbv hheap htake hcl hfl hwr
 obtain⟨h0,inner,how,hrl,hrc⟩:=jd
 refine⟨h0,gQ inner off vs,⟨by rw[fZ,hl];exact how.1,?_⟩,hcs,by rw[hf];exact e'.cells (kP hrc hfl off)⟩
 rcases how.2 with ⟨h1,_⟩|⟨g1,cap,WO,rfl,hb0,hh,h5,h6,h7,h8⟩
 ·subst h1;cases hbv
 ·cases hbv
  rw[hheap] at hh
  cases hh
  refine .inr ⟨_,cap,_,by rw[hl],hb0,hwr.at_,by rw[hl];exact h5,h6,by simp[fZ,h7],?_⟩
  have hi:inner.length=rows.length*sz:=how.1
  have h9:off+vs.length<=rows.length*sz:=by rw[<-hi,<-hfl.1,<-hrc.1];exact hs
  show(gQ cur.toList off vs).take _=_
  rw[hl,Ci _ _ _ _ h9,h8]
theorem dB{α:Type}(sz:Nat):∀(rows:List (List α)),(∀cs∈rows,cs.length=sz)->rows.flatten.length=rows.length*sz
 |[],_=>by simp
 |c::r,h=>by
  rw[List.flatten_cons,List.length_append,h c (by simp),dB sz r (λcs hc=>h cs (by simp[hc])),List.length_cons,Nat.succ_mul,Nat.add_comm]
theorem fw{α:Type}(sz:Nat)(hz:0<sz):∀(rows:List (List α)),(∀cs∈rows,cs.length=sz)->∀i cs j,rows[i]? =some cs->j<sz->rows.flatten[i*sz+j]? =cs[j]?
 |[],_,i,cs,j,hi,_=>by simp at hi
 |c::r,h,i,cs,j,hi,hj=>by
  have hc:=h c (by simp)
  cases i with
  |zero=>
   simp at hi;subst hi
   rw[List.flatten_cons,List.getElem?_append_left (by omega)];simp
  |succ i=>
   rw[List.flatten_cons,List.getElem?_append_right (by rw[hc,Nat.succ_mul];omega),hc]
   have:(i+1)*sz+j-sz=i*sz+j:=by rw[Nat.succ_mul];omega
   rw[this]
   exact fw sz hz r (λcs hc=>h cs (by simp[hc])) i cs j (by simpa using hi) hj
theorem Gb{α:Type}(sz:Nat)(hz:0<sz)(rows:List (List α))(h:∀cs∈rows,cs.length=sz)(i:Nat)(us:List α)(hi:i<rows.length)(hu:us.length=sz):
 (rows.set i us).flatten=gQ rows.flatten (i*sz) us:=by
 have hs:∀cs∈rows.set i us,cs.length=sz:=λcs hc=>by
  rcases List.mem_or_eq_of_mem_set hc with h1|h1
  ·exact h cs h1
  ·rw[h1,hu]
 have hl1:=dB sz rows h
 have hl2:=dB sz _ hs
 apply List.ext_getElem?
 intro j
 rw[mi]
 by_cases hj:j<rows.length*sz
 ·have hq:j/sz<rows.length:=(Nat.div_lt_iff_lt_mul hz).2 hj
  have hr:j % sz<sz:=Nat.mod_lt _ hz
  have hjj:j=j/sz*sz+j % sz:=by rw[Nat.mul_comm];exact(Nat.div_add_mod j sz).symm
  by_cases hij:j/sz=i
  ·have e1:(rows.set i us)[j/sz]? =some us:=by rw[hij];simp[hi]
   have e2:=fw sz hz _ hs (j/sz) us (j % sz) e1 hr
   rw[<-hjj] at e2
   rw[e2,hl1,hu]
   have e3:j=i*sz+j % sz:=by rw[<-hij];exact hjj
   rw[if_pos ⟨by omega,by omega,hj⟩]
   congr 1
   omega
  ·have e0:rows[j/sz]? =some rows[j/sz]:=List.getElem?_eq_getElem hq
   have e1:(rows.set i us)[j/sz]? =some rows[j/sz]:=by rw[List.getElem?_set_ne (Ne.symm hij)];exact e0
   have e2:=fw sz hz _ hs (j/sz) _ (j % sz) e1 hr
   have e3:=fw sz hz _ h (j/sz) _ (j % sz) e0 hr
   rw[<-hjj] at e2 e3
   rw[e2,e3]
   rw[if_neg]
   rintro⟨a1,a2,_⟩
   rw[hu] at a2
   rcases Nat.lt_or_gt_of_ne hij with h5|h5
   ·have:=Nat.mul_le_mul_right sz (Nat.succ_le_of_lt h5)
    rw[Nat.succ_mul] at this
    omega
   ·have:=Nat.mul_le_mul_right sz (Nat.succ_le_of_lt h5)
    rw[Nat.succ_mul] at this
    omega
 ·rw[List.getElem?_eq_none (by rw[hl2,List.length_set];omega),if_neg (by rw[hl1];omega),List.getElem?_eq_none (by rw[hl1];omega)]
def dM(P:Program)(t:TypeId)(f:Nat):Option Nat:=
 match P.underlying t with
 |some (.struct fs)=>match fs[f]? with
  |some fd=>match P.info? fd.type with
   |some i=>if i.size=0 then none else some fd.offset
   |none=>none
  |none=>none
 |_=>none
theorem Gc{w:World}{t:TypeId}{f off:Nat}{ad:Addr}(h:dM P t f=some off):(Instr.fieldAt t (.pointer (some ad)) f).run P w=.ok (.pointer (some (ad.add off))) w:=by
 unfold dM at h
 split at h
 ·rename_i fs hu
  split at h
  ·rename_i fd Z0
   split at h
   ·rename_i i hi
    split at h
    ·cases h
    ·rename_i hz
     cases h
     have h4:(sizeOf fd.type).run P w=.ok i.size w:=by simp[sizeOf,typeInfo,hi,go_sem]
     simp only[Instr.fieldAt,Sem.run_bind,run_underlying hu,Result.andThen_ok,Z0,Instr.sureAddr,Sem.run_pure,fieldPlace,h4]
     rw[if_neg hz]
     simp
   ·cases h
  ·cases h
 ·cases h
theorem xO{a:Act}{w:World}{t:TypeId}{x:Operand}{f off:Nat}{ad:Addr}(ho:o.op=.fieldAddr t x f)(hx:a.eval x=.pointer (some ad))(h:dM P t f=some off):
 (execOp a.eval o).run P w=.ok (.value (.pointer (some (ad.add off)))) w:=by
 unfold execOp
 rw[ho]
 simp only[hx,Sem.run_bind,Gc h,Result.andThen_ok,Sem.run_pure]
theorem Does.fieldAddr{t:TypeId}{x:Operand}{f off id WQ:Nat}(hg:o.guard=none)(ho:o.op=.fieldAddr t x f)(hx:ev T x=.ptr id WQ)(h:dM P t f=some off)
 (hk:K (.ptr id (WQ+off)) H):Does P n ops o T H K:=by
 refine Does.val _ hg (λa w ρ hh hr=>?_) hk
 have h3:=hr x
 rw[hx] at h3
 generalize nD:a.eval x=xx at h3
 cases h3 with
 |ptr _ _ g y hy hy2=>
  refine⟨_,xO ho nD h,?_⟩
  rw[add_plain]
  exact .ptr id _ g y hy hy2
def lY(P:Program)(t:TypeId):Option (Nat×Nat×Nat):=
 match P.underlying t with
 |some (.slice e)=>(P.info? e).map λi=>(e,i.size,i.bytes)
 |_=>none
theorem gy{t e s b:Nat}(h:lY P t=some (e,s,b)):P.underlying t=some (.slice e)/\P.elem t=e/\∃i,P.info? e=some i/\i.size=s/\i.bytes=b:=by
 unfold lY at h
 split at h
 ·rename_i e' hu
  obtain⟨i,hi,hx⟩:=Option.map_eq_some_iff.1 h
  cases hx
  exact⟨hu,by simp[Program.elem,hu],i,hi,rfl,rfl⟩
 ·cases h
theorem oK{t e s b:Nat}(h:lY P t=some (e,s,b))(w:World):(sizeOf e).run P w=.ok s w:=by
 obtain⟨_,_,i,hi,hs,_⟩:=gy h
 simp[sizeOf,typeInfo,hi,hs,go_sem]
theorem oL{a:Act}{w:World}{t e s b:Nat}{x y:Operand}{ad:Addr}{len cap:Nat}{k:IntKind}{i:Int}(ho:o.op=.indexAddr t x y)(ht:lY P t=some (e,s,b))(hx:a.eval x=.slice (some ad) len cap)(hy:a.eval y=.int k i)(h0:0<=i)(h1:i<len):
 (execOp a.eval o).run P w=.ok (.value (.pointer (some (ad.add (i.toNat*s))))) w:=by
 obtain⟨hu,he,_⟩:=gy ht
 have h5:=run_indexAt_slice (P:=P) (w:=w) t ad len cap k i (by rw[he];exact hu)
 rw[if_pos ⟨h0,h1⟩,he,oK ht] at h5
 unfold execOp
 rw[ho]
 simp only[hx,hy,Sem.run_bind,h5,Result.andThen_ok,Sem.run_pure]
theorem Does.dN{t e s b:Nat}{x y:Operand}{rows:List (List AV)}{k:IntKind}{i:Int}{cs:List AV}(hg:o.guard=none)(ho:o.op=.indexAddr t x y)(ht:lY P t=some (e,s,b))(hx:ev T x=.sl rows)(hy:ev T y=.v (.int k i))(h0:0<=i)(h1:rows[i.toNat]? =some cs)(hs:cs.length=s)
 (hk:K (.rp cs) H):Does P n ops o T H K:=by
 refine Does.val _ hg (λa w ρ hh hr=>?_) hk
 have h3:=hr x
 have h4:=hr y
 rw[hx] at h3
 rw[hy] at h4
 generalize nD:a.eval x=xx at h3
 have hlt:=(List.getElem?_eq_some_iff.1 h1).1
 cases h3 with
 |nil=>simp at h1
 |sl _ ad cap sz vals hcap hmax hok hsz hc hr2=>
  have e1:sz=s:=by rw[<-hs];exact(hsz cs (List.mem_of_getElem? h1)).symm
  refine⟨_,oL ho ht nD (aP h4) h0 (by omega),?_⟩
  refine .rp cs _ (λj=>vals i.toNat j) (λ_=>by rw[add_block];exact hok (λhe=>by rw[he] at h1;simp at h1)) (λj hj=>?_) (λj u hj=>hr2 _ cs j u h1 hj)
  rw[add_add,<-e1]
  exact hc _ cs j h1 hj
theorem Does.oq{t e s b:Nat}{x y:Operand}{id off len:Nat}{k:IntKind}{i:Int}(hg:o.guard=none)(ho:o.op=.indexAddr t x y)(ht:lY P t=some (e,s,b))(hx:ev T x=.own id off len s)(hy:ev T y=.v (.int k i))(h0:0<=i)(h1:i<len)
 (hk:K (.ptr id ((off+i.toNat)*s)) H):Does P n ops o T H K:=by
 refine Does.val _ hg (λa w ρ hh hr=>?_) hk
 have h3:=hr x
 have h4:=hr y
 rw[hx] at h3
 rw[hy] at h4
 generalize nD:a.eval x=xx at h3
 cases h3 with
 |lQ=>exact absurd h1 (by simp;omega)
 |ny=>exact absurd h1 (by simp;omega)
 |own _ _ _ _ g m cap hv hle hmax=>
  refine⟨_,oL ho ht nD (aP h4) h0 h1,?_⟩
  rw[add_plain,<-Nat.add_mul]
  exact .ptr id _ g _ hv (.inr ⟨_,_,rfl⟩)
theorem Does.bz{t:Nat}{x y:Operand}{str:ByteArray}{k:IntKind}{i:Int}(hg:o.guard=none)(ho:o.op=.index t x y)(ht:P.underlying t=some .string)(hx:ev T x=.v (.string str))(hy:ev T y=.v (.int k i))(h0:0<=i)(h1:i<str.size){c:Int}(hcc:c=((str[i.toNat]'(by omega)).toNat:Int))
 (hk:K (.v (.int .u8 c)) H):Does P n ops o T H K:=by
 refine Does.val _ hg (λa w ρ hh hr=>?_) hk
 have h3:=hr x
 have h4:=hr y
 rw[hx] at h3
 rw[hy] at h4
 refine⟨_,?_,.v _⟩
 have h5:=run_index_string (P:=P) (w:=w) t str k i ht
 rw[dif_pos ⟨h0,h1⟩] at h5
 unfold execOp
 rw[ho]
 simp only[aP h3,aP h4,Sem.run_bind,h5,Result.andThen_ok,Sem.run_pure,hcc]
theorem IY{ok:Nat->Prop}{ρ:fK}{w:World}{rows:List (List AV)}{A:Option Addr}{len cap s l h:Nat}(hr:dL ok ρ w (.sl rows) (.slice A len cap))(hs:∀cs∈rows,cs.length=s)(h1:l<=h)(h2:h<=rows.length):
 dL ok ρ w (.sl ((rows.take h).drop l)) (sliced A l h cap s):=by
 cases hr with
 |nil=>
  have:h=0:=by simpa using h2
  subst this
  have:l=0:=by omega
  subst this
  simpa[sliced] using dL.nil
 |sl _ a _ sz vals hcap hmax hok hsz hc hr2=>
  have hl:h-l=((rows.take h).drop l).length:=by simp;omega
  unfold sliced
  by_cases hcl:cap=l
  ·have e1:(rows.take h).drop l=[]:=by apply List.drop_eq_nil_of_le;simp;omega
   rw[if_pos hcl,hl,e1]
   exact .sl [] a _ 0 (λ_ _=>default) (by simp) (by omega) (λhn=>absurd U hn) (by simp) (by simp) (by simp)
  ·rw[if_neg hcl,hl,Option.map_some]
   refine .sl _ _ _ sz (λi j=>vals (l+i) j) (by rw[<-hl];omega) (by omega) (λhn=>by rw[add_block];exact hok (λhe=>hn (by rw[he];simp))) (λcs hcs=>hsz cs (List.mem_of_mem_take (List.mem_of_mem_drop hcs))) (λi cs j hi hj=>?_) (λi cs j u hi hj=>?_)
   ·rw[List.getElem?_drop,List.getElem?_take] at hi
    split at hi
    ·have e1:sz=s:=by rw[<-hs cs (List.mem_of_getElem? hi)];exact(hsz cs (List.mem_of_getElem? hi)).symm
     rw[add_add,<-e1,<-Nat.add_assoc,<-Nat.add_mul]
     exact hc _ cs j hi hj
    ·cases hi
   ·rw[List.getElem?_drop,List.getElem?_take] at hi
    split at hi
    ·exact hr2 _ cs j u hi hj
    ·cases hi
theorem qU{ok:Nat->Prop}{ρ:fK}{w:World}{id off len s l h:Nat}{x:Value}(hr:dL ok ρ w (.own id off len s) x)(h1:l<=h)(h2:h<=len):
 ∃A n cap,x=.slice A n cap/\n=len/\len<=cap/\dL ok ρ w (.own id (off+l) (h-l) s) (sliced A l h cap s):=by
 cases hr with
 |lQ _ _ hv=>
  have:h=0:=by omega
  subst this
  have:l=0:=by omega
  subst this
  exact⟨none,0,0,rfl,rfl,Nat.le_refl _,by simpa[sliced] using dL.lQ id s hv⟩
 |ny _ _ _ g m c o' c' hv h0 hm=>
  have:h=0:=by omega
  subst this
  have:l=0:=by omega
  subst this
  refine⟨_,_,_,rfl,rfl,Nat.zero_le _,?_⟩
  unfold sliced
  by_cases hc:c'=0
  ·rw[if_pos hc];exact .ny id _ s g m c _ _ hv (by omega) (by omega)
  ·rw[if_neg hc]
   simp only[Option.map_some,add_plain]
   exact .ny id _ s g m c _ _ hv (by omega) (by omega)
 |own _ _ _ _ g m cap hv hle hmax=>
  refine⟨_,_,_,rfl,rfl,by omega,?_⟩
  unfold sliced
  by_cases hc:cap-off=l
  ·rw[if_pos hc]
   have e1:h-l=0:=by omega
   rw[e1]
   by_cases hl0:l=0
   ·subst hl0
    have e2:=dL.own (ok:=ok) (w:=w) id off 0 s g m cap hv (by omega) hmax
    simpa using e2
   ·exact .ny id _ s g m cap _ _ hv (by omega) (by omega)
  ·rw[if_neg hc,Option.map_some,add_plain,<-Nat.add_mul,Nat.sub_sub]
   exact .own id (off+l) (h-l) s g m cap hv (by omega) hmax
theorem lS{a:Act}{w:World}{t:TypeId}{x:Operand}{lo hi mx:Option Operand}{r:Value}(ho:o.op=.slice t x lo hi mx)(hp:∀x,(Instr.sliceAt t x (lo.map a.eval) (hi.map a.eval) (mx.map a.eval)).run P w=(Instr.slice t x (lo.map a.eval) (hi.map a.eval) (mx.map a.eval)).run P w)
 (h:(Instr.slice t (a.eval x) (lo.map a.eval) (hi.map a.eval) (mx.map a.eval)).run P w=.ok r w):(execOp a.eval o).run P w=.ok (.value r) w:=by
 unfold execOp
 rw[ho]
 simp only[Sem.run_bind,hp,h,Result.andThen_ok,Sem.run_pure]
inductive BL (T:Sl) (len:Nat):Option Operand->Option Operand->Nat->Nat->Prop
 |all:BL T len none none 0 len
 |lo (x:Operand) (k:IntKind) (l:Nat) (h:ev T x=.v (.int k (l:Int))):BL T len (some x) none l len
 |hi (x:Operand) (k:IntKind) (h':Nat) (h:ev T x=.v (.int k (h':Int))):BL T len none (some x) 0 h'
 |both (x y:Operand) (k k':IntKind) (l h':Nat) (h:ev T x=.v (.int k (l:Int))) (hh:ev T y=.v (.int k' (h':Int))):BL T len (some x) (some y) l h'
theorem zN{a:Act}{w:World}{ρ:fK}{t e s b:Nat}{A:Option Addr}{len cap l h:Nat}{lo hi:Option Operand}(hr:∀x:Operand,dL (bK ρ H) ρ w (ev T x) (a.eval x))(ht:lY P t=some (e,s,b))(hb:BL T len lo hi l h)(h1:l<=h)(h2:h<=len)(h3:len<=cap):
 (Instr.slice t (.slice A len cap) (lo.map a.eval) (hi.map a.eval) none).run P w=.ok (sliced A l h cap s) w:=by
 obtain⟨hu,he,_⟩:=gy ht
 have hu':P.underlying t=some (.slice (P.elem t)):=by rw[he];exact hu
 have hsz:(sizeOf (P.elem t)).run P w=.ok s w:=by rw[he];exact oK ht w
 cases hb with
 |all=>simp only[Option.map_none,run_slice_all (P:=P) w t A len cap hu',hsz,Result.andThen_ok]
 |lo x k _ hx=>
  have:=hr x;rw[hx] at this
  simp only[Option.map_none,Option.map_some,aP this]
  rw[run_slice_l (P:=P) w t A len cap hu' k l (by omega) (by omega),hsz]
  simp
 |hi x k _ hx=>
  have:=hr x;rw[hx] at this
  simp only[Option.map_none,Option.map_some,aP this]
  rw[run_slice_h (P:=P) w t A len cap hu' k h (by omega) (by omega),hsz]
  simp
 |both x y k k' _ _ hx hy=>
  have h4:=hr x;rw[hx] at h4
  have h5:=hr y;rw[hy] at h5
  simp only[Option.map_some,aP h4,aP h5]
  rw[run_slice_lh (P:=P) w t A len cap hu' k k' l h (by omega) (by omega) (by omega),hsz]
  simp
theorem Does.mo{t e s b:Nat}{x:Operand}{lo hi:Option Operand}{rows:List (List AV)}{l h:Nat}(hg:o.guard=none)(ho:o.op=.slice t x lo hi none)(ht:lY P t=some (e,s,b))(hx:ev T x=.sl rows)(hs:∀cs∈rows,cs.length=s)
 (hb:BL T rows.length lo hi l h) (h1:l<=h) (h2:h<=rows.length) (hk:K (.sl ((rows.take h).drop l)) H):Does P n ops o T H K:=by
 refine Does.val _ hg (λa w ρ hh hr=>?_) hk
 have h3:=hr x
 rw[hx] at h3
 obtain⟨hu,he,_⟩:=gy ht
 have key:∀A cap,a.eval x=.slice A rows.length cap->rows.length<=cap->∃y,(execOp a.eval o).run P w=.ok (.value y) w/\dL (bK ρ H) ρ w (.sl ((rows.take h).drop l)) y:=by
  intro A cap nD hcap
  rw[nD] at h3
  refine⟨_,lS ho (λx=>run_sliceAt_slice (P:=P) (w:=w) t x _ _ _ (by rw[he];exact hu)) (by rw[nD];exact zN hr ht hb h1 h2 hcap),IY h3 hs h1 h2⟩
 generalize nD:a.eval x=xx at h3
 cases h3 with
 |nil=>exact key none 0 nD (Nat.le_refl _)
 |sl _ a _ sz vals hcap hmax hok hsz hc hr2=>exact key _ _ nD hcap
theorem Does.xP{t e s b:Nat}{x:Operand}{lo hi:Option Operand}{id off len l h:Nat}(hg:o.guard=none)(ho:o.op=.slice t x lo hi none)(ht:lY P t=some (e,s,b))(hx:ev T x=.own id off len s)
 (hb:BL T len lo hi l h) (h1:l<=h) (h2:h<=len) (hk:K (.own id (off+l) (h-l) s) H):Does P n ops o T H K:=by
 refine Does.val _ hg (λa w ρ hh hr=>?_) hk
 have h3:=hr x
 rw[hx] at h3
 obtain⟨hu,he,_⟩:=gy ht
 obtain⟨A,m,cap,nD,rfl,hle,hrep⟩:=qU h3 h1 h2
 exact⟨_,lS ho (λx=>run_sliceAt_slice (P:=P) (w:=w) t x _ _ _ (by rw[he];exact hu)) (by rw[nD];exact zN hr ht hb h1 h2 hle),hrep⟩
theorem Does.lZ{t:Nat}{x:Operand}{lo hi:Option Operand}{str:ByteArray}{l h:Nat}(hg:o.guard=none)(ho:o.op=.slice t x lo hi none)(ht:P.underlying t=some .string)(hx:ev T x=.v (.string str))
 (hb:BL T str.size lo hi l h) (h1:l<=h) (h2:h<=str.size) (hk:K (.v (.string (str.extract l h))) H):Does P n ops o T H K:=by
 refine Does.val _ hg (λa w ρ hh hr=>?_) hk
 have h3:=hr x
 rw[hx] at h3
 have h4:=aP h3
 refine⟨_,lS ho (λx=>run_sliceAt_string (P:=P) (w:=w) t x _ _ _ ht) ?_,.v _⟩
 rw[h4]
 cases hb with
 |all=>simpa using run_slice_string_all (P:=P) (w:=w) t str ht
 |lo x k _ hx=>
  have:=hr x;rw[hx] at this
  simp only[Option.map_none,Option.map_some,aP this]
  simpa using run_slice_string_l (P:=P) (w:=w) t str ht k l (by omega) (by omega)
 |hi x k _ hx=>
  have:=hr x;rw[hx] at this
  simp only[Option.map_none,Option.map_some,aP this]
  simpa using run_slice_string_h (P:=P) (w:=w) t str ht k h (by omega) (by omega)
 |both x y k k' _ _ hx hy=>
  have h4:=hr x;rw[hx] at h4
  have h5:=hr y;rw[hy] at h5
  simp only[Option.map_some,aP h4,aP h5]
  simpa using run_slice_string (P:=P) (w:=w) t str k k' l h ht (by omega) (by omega) (by omega)
theorem Gd{a:Act}{w:World}{f:FuncId}{c:Operand}{args:Array Operand}{at_:Array TypeId}{dD:Array Value}(ho:o.op=.call {callee:=.value c,args:=args,argTypes:=at_})(hc:a.eval c=.func (.func f) #[] dD)(hb:xK P f):
 (execOp a.eval o).run P w=.ok (.enter f (args.map a.eval++dD)) w:=by
 obtain⟨fn,hf,hn,hbody⟩:=hb
 unfold execOp
 rw[ho]
 generalize a.eval=ρ' at hc⊢
 have hn':¬fn.name= "runtime.NumGoroutine" :=by simpa using hn
 have hb':¬fn.body=none:=by intro h;rw[h] at hbody;simp at hbody
 simp[resolve,Deferred.ofValue,hc,invoke,callFunc,go_sem,hf,hn',hb']
theorem zl{ok:Nat->Prop}{ρ:fK}{w:World}{f:Nat}{dD:List AV}{x:Value}(h:dL ok ρ w (.lW f dD) x):∃vs,x=.func (.func f) #[] (List.toArray vs)/\IX ok ρ w dD vs:=by
 cases h with
 |lW _ _ vs hl hr=>exact⟨vs,rfl,hl,hr⟩
theorem Does.call{f:FuncId}{c:Operand}{args:Array Operand}{at_:Array TypeId}{dD:List AV}(hg:o.guard=none)(ho:o.op=.call {callee:=.value c,args:=args,argTypes:=at_})(hc:ev T c=.lW f dD)
 (h:F P f (args.toList.map (ev T)++dD) H K):Does P n ops o T H K:=by
 intro a w ρ h1 h2 h3 h4 N Q hN
 rw[if_pos (by simp[Region.wanted,hg])]
 have hr:=iA h4
 have h5:=hr c
 rw[hc] at h5
 obtain⟨vs,hv,hl,hvs⟩:=zl h5
 unfold Oper.wp
 rw[Gd ho hv h.1,Oper.upon_enter]
 have h6:=h.2 ρ w (args.toList.map a.eval++vs) h3 ⟨by simp[hl],λj u x hu hx=>by
  by_cases hj:j<args.toList.length
  ·rw[List.getElem?_append_left (by simpa using hj),List.getElem?_map] at hu hx
   rw[List.getElem?_eq_getElem hj] at hu hx
   cases hu;cases hx
   exact hr _
  ·rw[List.getElem?_append_right (by simpa using hj)] at hu hx
   simp only[List.length_map] at hu hx
   exact hvs _ u x hu hx⟩
 have e1:(args.toList.map a.eval++vs).toArray=args.map a.eval++vs.toArray:=by
  apply Array.ext'
  simp
 rw[e1] at h6
 refine h6.mono<|?_
 rintro e w' ⟨x,ρ',u,H',rfl,a1,a2,a3,a4⟩
 exact hN x w' ρ' u H' a1 a2 a3 a4
theorem Does.makeFunc{f:FuncId}{dD:Array Operand}(hg:o.guard=none)(ho:o.op=.makeFunc (.func f) #[] dD)(hk:K (.lW f (dD.toList.map (ev T))) H):Does P n ops o T H K:=by
 refine Does.val _ hg (λa w ρ hh hr=>⟨.func (.func f) #[] (dD.toList.map a.eval).toArray,?_,?_⟩) hk
 ·unfold execOp
  rw[ho]
  simp[Instr.makeFunc,go_sem]
  apply Array.ext'
  simp
 ·refine .lW f _ _ (by simp) λj u x h1 h2=>?_
  rw[List.getElem?_map] at h1 h2
  cases hj:dD.toList[j]? with
  |none=>rw[hj] at h1;cases h1
  |some c=>
   rw[hj] at h1 h2
   cases h1;cases h2
   exact hr c
end
end Go.gW
end
