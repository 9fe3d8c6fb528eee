/- A part of the proof. -/
import Derived.Test.YtonpfomjoiaacaaGreatDoorMz02
set_option maxRecDepth 100000
set_option maxHeartbeats 4000000
set_option linter.unusedSectionVars false
set_option linter.unusedVariables false
set_option linter.unusedSimpArgs false
section
namespace Go.fT
open Go Go.RowKit
def fH{α:Type}:List α->Nat->List α->List α
 |l,_,[]=>l
 |l,off,u::r=>fH (l.set off u) (off+1) r
theorem gI{α:Type}:∀(us l:List α) (off:Nat),(fH l off us).length=l.length
 |[],_,_=>rfl
 |u::r,l,off=>by simp[fH,gI r]
theorem oF{α:Type}:∀(us l:List α) (off:Nat) (j:Nat),(fH l off us)[j]? =if off<=j/\j<off+us.length/\j<l.length then us[j-off]? else l[j]?
 |[],l,off,j=>by
  simp only[fH,List.length_nil]
  rw[if_neg (by omega)]
 |u::r,l,off,j=>by
  simp only[fH,List.length_cons]
  rw[oF r]
  simp only[List.length_set]
  by_cases h1:off+1<=j/\j<off+1+r.length/\j<l.length
  ·rw[if_pos h1,if_pos (by omega)]
   have:j-off=(j-(off+1))+1:=by omega
   rw[this,List.getElem?_cons_succ]
  ·rw[if_neg h1,List.getElem?_set]
   by_cases h2:off=j
   ·subst h2
    rw[if_pos U]
    by_cases h3:off<l.length
    ·rw[if_pos h3,if_pos (by omega)];simp
    ·rw[if_neg h3,if_neg (by omega)];rw[List.getElem?_eq_none (by omega)]
   ·rw[if_neg h2,if_neg (by omega)]
theorem Gh{α:Type}(us l:List α)(off m:Nat)(h:off+us.length<=m):(fH l off us).take m=fH (l.take m) off us:=by
 apply List.ext_getElem?
 intro j
 rw[List.getElem?_take,oF,oF,List.getElem?_take,List.length_take]
 by_cases hj:j<m
 ·simp only[hj,if_true]
  by_cases h1:off<=j/\j<off+us.length/\j<l.length
  ·rw[if_pos h1,if_pos (by omega)]
  ·rw[if_neg h1,if_neg (by omega)]
 ·simp only[hj,if_false]
  rw[if_neg (by omega)]
theorem j5{ok:Nat->Prop}{ρ:gz}{w:World}{us:List AV}{xs:List Value}{cs:List AV}{vs:List Value}(h:aX ok ρ w us xs)(hc:aX ok ρ w cs vs)(off:Nat):aX ok ρ w (fH us off cs) (fH xs off vs):=
 ⟨by rw[gI,gI,h.1],λj u x h1 h2=>by
   rw[oF] at h1 h2
   rw[<-h.1,<-hc.1] at h2
   split at h1
   ·rename_i hh
    rw[if_pos hh] at h2
    exact hc.2 _ u x h1 h2
   ·rename_i hh
    rw[if_neg hh] at h2
    exact h.2 _ u x h1 h2⟩
structure Wrote(w w':World)(g:Nat)(c:Obj):Prop where
 os:w'.os=w.os
 tape:w'.tape=w.tape
 output:w'.output=w.output
 size:w'.heap.size=w.heap.size
 block:∀k,k≠g->w'.heap[k]? =w.heap[k]?
 at_:w'.heap[g]? =some c
section
variable {P:Program} {n:Nat} {T:Sl} {H:Hp} {ops:Array Oper} {o:Oper} {K:AV->Hp->Prop}
theorem rG(g t off:Nat):∀(vs:List Value) (i:Nat) (w:World) (cur:Array Value),w.heap[g]? =some (.cells cur t (0,0))->off+i+vs.length<=cur.size->(∀v∈vs,v.oneCell'=true)->
 ∃w',(storeCells ⟨g,off,none⟩ vs i).run P w=.ok () w'/\Wrote w w' g (.cells (fH cur.toList (off+i) vs).toArray t (0,0))
 |[],i,w,cur,hg,_,_=>⟨w,rfl,rfl,rfl,rfl,rfl,λ_ _=>rfl,by simpa[fH] using hg⟩
 |v::r,i,w,cur,hg,hl,h1=>by
  have hlt:off+i<cur.size:=by simp at hl;omega
  have hc:w.cell? ⟨g,off+i,none⟩=some cur[off+i]:=by simp[World.cell?,hg,hlt]
  have hf:w.frozen? ⟨g,off+i,none⟩=false:=by simp[World.frozen?,hg]
  have hst:(store ((⟨g,off,none⟩:Addr).add i) v).run P w=.ok () (w.setCell ⟨g,off+i,none⟩ v):=by
   rw[add_plain,run_store P w _ v _ (h1 v (by simp)),hc]
   simp[hf]
  have hg':(w.setCell ⟨g,off+i,none⟩ v).heap[g]? =some (.cells (cur.setIfInBounds (off+i) v) t (0,0)):=by
   simp[World.setCell,Array.getElem?_modify,hg]
  obtain⟨w',hw',hx⟩:=rG g t off r (i+1) _ _ hg' (by simp at hl⊢;omega) (λu hu=>h1 u (by simp[hu]))
  refine⟨w',?_,?_⟩
  ·unfold storeCells
   simp only[Sem.run_bind,hst,Result.andThen_ok,hw']
  ·refine⟨hx.os,hx.tape,hx.output,by rw[hx.size];simp[World.setCell],λk hk=>(hx.block k hk).trans (Below.heap_setCell w _ v k hk),?_⟩
   rw[hx.at_]
   simp[fH,Nat.add_assoc]
theorem HY{a:Act}{w w':World}{t:TypeId}{x y:Operand}{ad:Addr}{s:Nat}{b:Bool}(ho:o.op=.store t x y)(hx:a.eval x=.pointer (some ad))(ht:dY P t=some (b,s))(hs:(a.eval y).cells.size=s)
 (h5:(storeCells ad (a.eval y).cells.toList).run P w=.ok () w'):(execOp a.eval o).run P w=.ok .skip w':=by
 obtain⟨d,i,hd,hi,hb,hsz⟩:=qI ht
 have h4:(sizeOf t).run P w=.ok s w:=by simp[sizeOf,typeInfo,hi,hsz,go_sem]
 unfold execOp
 rw[ho]
 simp only[Instr.storeAt,Instr.sureAddr,hx,Sem.run_bind,Sem.run_pure,Result.andThen_ok,storeVar,h4,hs,ne_eq,not_true,if_false,h5]
theorem Does.CS{t:TypeId}{x y:Operand}{id off:Nat}{ob xc:Ob}{b:Bool}(hg:o.guard=none)(ho:o.op=.store t x y)(hx:ev T x=.ptr id off)(h2:H id=some ob)
 (hc:(flat (ev T y)).all aR=true) (ht:dY P t=some (b,(flat (ev T y)).length)) (hs:off+(flat (ev T y)).length<=(cellsOf ob).length)
 (iD:∀(ρ ρ':gz) (H':Hp) (w w':World) (v:Value) (g:Nat) (cur:Array Value) (tt:Nat) (vs vals:List Value),nJ (bF ρ H) ρ w v ob->Ext ρ H w ρ' H' w'->blk v=some g->w.heap[g]? =some (.cells cur tt (0,0))->cur.toList.take vals.length=vals->aX (bF ρ H) ρ w (cellsOf ob) vals->aX (bF ρ H) ρ w (flat (ev T y)) vs->
   Wrote w w' g (.cells (fH cur.toList off vs).toArray tt (0,0))->nJ (bF ρ' H') ρ' w' v xc)
 (hk:K .any (set H id (some xc))) (hm:Gg ob=true:=by rfl):Does P n ops o T H K:=by
 intro a w ρ h1 h2' h3 h4 N Q hN
 rw[if_pos (by simp[Region.wanted,hg])]
 have hr:=gP h4
 have h5:=hr x
 rw[hx] at h5
 obtain⟨g,vals,v,hx2,hv,hbv,hcl,hcell,cur,tt,hheap,htake⟩:=zY h3 h2 h5 hm
 have hfl:=CR (hr y) hc
 have hle:vals.length<=cur.size:=by rw[<-htake,List.length_take];simp;omega
 obtain⟨w',hw',hwr⟩:=rG (P:=P) g tt off (a.eval y).cells.toList 0 w cur hheap (by rw[<-hfl.1];have:=hcl.1;omega) (λu hu=>by
  obtain⟨j,hj⟩:=List.getElem?_of_mem hu
  have hlt:j<(flat (ev T y)).length:=by rw[hfl.1];exact(List.getElem?_eq_some_iff.1 hj).1
  exact(hfl.2 j _ u (List.getElem?_eq_getElem hlt) hj).2)
 unfold Oper.wp
 rw[HY ho hx2 ht (by rw[<-Array.length_toList,<-hfl.1]) hw']
 obtain⟨v0,hv0,hob0⟩:=h3.ob id ob h2
 rw[hv] at hv0
 cases hv0
 have:=h3.write xc h2 hv hwr.os hwr.tape hwr.output (by rw[hwr.size];exact Nat.le_refl _) (λk _ hk=>hwr.block k (λe=>hk (by rw[hbv,e]))) (λρ' H' e _=>iD ρ ρ' H' w w' v g cur tt _ vals hob0 e hbv hheap htake hcl hfl hwr)
 exact hN undef w' ρ .any _ this.1 this.2 (.any _) hk
theorem Does.nY{t:TypeId}{x y:Operand}{id off e:Nat}{l:List AV}{b:Bool}(hg:o.guard=none)(ho:o.op=.store t x y)(hx:ev T x=.ptr id off)(h2:H id=some (.box e l))
 (hc:(flat (ev T y)).all aR=true) (ht:dY P t=some (b,(flat (ev T y)).length)) (hs:off+(flat (ev T y)).length<=l.length)
 (hk:K .any (set H id (some (.box e (fH l off (flat (ev T y))))))):Does P n ops o T H K:=by
 refine Does.CS hg ho hx h2 hc ht hs ?_ hk
 intro ρ ρ' H' w w' v g cur tt vs vals iD e hbv hheap htake hcl hfl hwr
 obtain⟨g1,SH,rfl,hg1,hc1⟩:=iD
 cases hbv
 rw[hheap] at hg1
 cases hg1
 refine⟨_,fH SH off vs,rfl,by simpa using hwr.at_,e.cells (j5 hc1 hfl off)⟩
theorem Does.Aa{t:TypeId}{x y:Operand}{id off e sz:Nat}{rows:List (List AV)}(rows':List (List AV)){b:Bool}(hg:o.guard=none)(ho:o.op=.store t x y)(hx:ev T x=.ptr id off)(h2:H id=some (.row e sz rows))
 (hc:(flat (ev T y)).all aR=true) (ht:dY P t=some (b,(flat (ev T y)).length)) (hs:off+(flat (ev T y)).length<=rows.flatten.length)
 (hf:rows'.flatten=fH rows.flatten off (flat (ev T y))) (hl:rows'.length=rows.length) (hcs:∀cs∈rows',cs.length=sz)
 (hk:K .any (set H id (some (.row e sz rows')))):Does P n ops o T H K:=by
 refine Does.CS hg ho hx h2 hc ht hs ?_ hk
 intro ρ ρ' H' w w' v g cur tt vs vals iD e' hbv hheap htake hcl hfl hwr
 obtain⟨h0,inner,how,hrl,hrc⟩:=iD
 refine⟨h0,fH inner off vs,⟨by rw[gI,hl];exact how.1,?_⟩,hcs,by rw[hf];exact e'.cells (j5 hrc hfl off)⟩
 rcases how.2 with ⟨h1,_⟩|⟨g1,cap,cur1,rfl,hb0,hh,h5,h6,h7,h8⟩
 ·subst h1;cases hbv
 ·cases hbv
  rw[hheap] at hh
  cases hh
  refine .inr ⟨_,cap,_,by rw[hl],hb0,hwr.at_,by rw[hl];exact h5,h6,by simp[gI,h7],?_⟩
  have hi:inner.length=rows.length*sz:=how.1
  have h9:off+vs.length<=rows.length*sz:=by rw[<-hi,<-hfl.1,<-hrc.1];exact hs
  show(fH cur.toList off vs).take _=_
  rw[hl,Gh _ _ _ _ h9,h8]
theorem dQ{α:Type}(sz:Nat):∀(rows:List (List α)),(∀cs∈rows,cs.length=sz)->rows.flatten.length=rows.length*sz
 |[],_=>by simp
 |c::r,h=>by
  rw[List.flatten_cons,List.length_append,h c (by simp),dQ sz r (λcs hc=>h cs (by simp[hc])),List.length_cons,Nat.succ_mul,Nat.add_comm]
theorem gJ{α:Type}(sz:Nat)(hz:0<sz):∀(rows:List (List α)),(∀cs∈rows,cs.length=sz)->∀i cs j,rows[i]? =some cs->j<sz->rows.flatten[i*sz+j]? =cs[j]?
 |[],_,i,cs,j,hi,_=>by simp at hi
 |c::r,h,i,cs,j,hi,hj=>by
  have hc:=h c (by simp)
  cases i with
  |zero=>
   simp at hi;subst hi
   rw[List.flatten_cons,List.getElem?_append_left (by omega)];simp
  |succ i=>
   rw[List.flatten_cons,List.getElem?_append_right (by rw[hc,Nat.succ_mul];omega),hc]
   have:(i+1)*sz+j-sz=i*sz+j:=by rw[Nat.succ_mul];omega
   rw[this]
   exact gJ sz hz r (λcs hc=>h cs (by simp[hc])) i cs j (by simpa using hi) hj
theorem KM{α:Type}(sz:Nat)(hz:0<sz)(rows:List (List α))(h:∀cs∈rows,cs.length=sz)(i:Nat)(us:List α)(hi:i<rows.length)(hu:us.length=sz):
 (rows.set i us).flatten=fH rows.flatten (i*sz) us:=by
 have hs:∀cs∈rows.set i us,cs.length=sz:=λcs hc=>by
  rcases List.mem_or_eq_of_mem_set hc with h1|h1
  ·exact h cs h1
  ·rw[h1,hu]
 have hl1:=dQ sz rows h
 have hl2:=dQ sz _ hs
 apply List.ext_getElem?
 intro j
 rw[oF]
 by_cases hj:j<rows.length*sz
 ·have hq:j/sz<rows.length:=(Nat.div_lt_iff_lt_mul hz).2 hj
  have hr:j % sz<sz:=Nat.mod_lt _ hz
  have hjj:j=j/sz*sz+j % sz:=by rw[Nat.mul_comm];exact(Nat.div_add_mod j sz).symm
  by_cases hij:j/sz=i
  ·have e1:(rows.set i us)[j/sz]? =some us:=by rw[hij];simp[hi]
   have e2:=gJ sz hz _ hs (j/sz) us (j % sz) e1 hr
   rw[<-hjj] at e2
   rw[e2,hl1,hu]
   have e3:j=i*sz+j % sz:=by rw[<-hij];exact hjj
   rw[if_pos ⟨by omega,by omega,hj⟩]
   congr 1
   omega
  ·have e0:rows[j/sz]? =some rows[j/sz]:=List.getElem?_eq_getElem hq
   have e1:(rows.set i us)[j/sz]? =some rows[j/sz]:=by rw[List.getElem?_set_ne (Ne.symm hij)];exact e0
   have e2:=gJ sz hz _ hs (j/sz) _ (j % sz) e1 hr
   have e3:=gJ sz hz _ h (j/sz) _ (j % sz) e0 hr
   rw[<-hjj] at e2 e3
   rw[e2,e3]
   rw[if_neg]
   rintro⟨a1,a2,_⟩
   rw[hu] at a2
   rcases Nat.lt_or_gt_of_ne hij with h5|h5
   ·have:=Nat.mul_le_mul_right sz (Nat.succ_le_of_lt h5)
    rw[Nat.succ_mul] at this
    omega
   ·have:=Nat.mul_le_mul_right sz (Nat.succ_le_of_lt h5)
    rw[Nat.succ_mul] at this
    omega
 ·rw[List.getElem?_eq_none (by rw[hl2,List.length_set];omega),if_neg (by rw[hl1];omega),List.getElem?_eq_none (by rw[hl1];omega)]
def dE(P:Program)(t:TypeId)(f:Nat):Option Nat:=
 match P.underlying t with
 |some (.struct fs)=>match fs[f]? with
  |some fd=>match P.info? fd.type with
   |some i=>if i.size=0 then none else some fd.offset
   |none=>none
  |none=>none
 |_=>none
theorem KN{w:World}{t:TypeId}{f off:Nat}{ad:Addr}(h:dE P t f=some off):(Instr.fieldAt t (.pointer (some ad)) f).run P w=.ok (.pointer (some (ad.add off))) w:=by
 unfold dE at h
 split at h
 ·rename_i fs hu
  split at h
  ·rename_i fd hfd
   split at h
   ·rename_i i hi
    split at h
    ·cases h
    ·rename_i hz
     cases h
     have h4:(sizeOf fd.type).run P w=.ok i.size w:=by simp[sizeOf,typeInfo,hi,go_sem]
     simp only[Instr.fieldAt,Sem.run_bind,run_underlying hu,Result.andThen_ok,hfd,Instr.sureAddr,Sem.run_pure,fieldPlace,h4]
     rw[if_neg hz]
     simp
   ·cases h
  ·cases h
 ·cases h
theorem Ab{a:Act}{w:World}{t:TypeId}{x:Operand}{f off:Nat}{ad:Addr}(ho:o.op=.fieldAddr t x f)(hx:a.eval x=.pointer (some ad))(h:dE P t f=some off):
 (execOp a.eval o).run P w=.ok (.value (.pointer (some (ad.add off)))) w:=by
 unfold execOp
 rw[ho]
 simp only[hx,Sem.run_bind,KN h,Result.andThen_ok,Sem.run_pure]
theorem Does.fieldAddr{t:TypeId}{x:Operand}{f off id off0:Nat}(hg:o.guard=none)(ho:o.op=.fieldAddr t x f)(hx:ev T x=.ptr id off0)(h:dE P t f=some off)
 (hk:K (.ptr id (off0+off)) H):Does P n ops o T H K:=by
 refine Does.val _ hg (λa w ρ hh hr=>?_) hk
 have h3:=hr x
 rw[hx] at h3
 generalize jR:a.eval x=xx at h3
 cases h3 with
 |ptr _ _ g y hy hy2=>
  refine⟨_,Ab ho jR h,?_⟩
  rw[add_plain]
  exact .ptr id _ g y hy hy2
def rH(P:Program)(t:TypeId)(f:Nat):Option (Nat×Bool×Nat):=
 match P.underlying t with
 |some (.struct fs)=>match fs[f]? with
  |some fd=>(dY P fd.type).map λx=>(fd.offset,x)
  |none=>none
 |_=>none
theorem CU{w:World}{t:TypeId}{f off s:Nat}{cs:Array Value}{v:Value}(h:rH P t f=some (off,false,s))(hv:cs[off]? =some v):(Instr.field t (.agg cs) f).run P w=.ok v w:=by
 unfold rH at h
 split at h
 ·rename_i fs hu
  split at h
  ·rename_i fd hfd
   obtain⟨x,hx,hy⟩:=Option.map_eq_some_iff.1 h
   cases hy
   obtain⟨d,i,hd,hi,hb,hs⟩:=qI hx
   have h1:=run_underlying (w:=w) hd
   have h3:(isAgg fd.type).run P w=.ok false w:=by cases d<;>simp_all[isAgg,zZ,go_sem]
   simp only[Instr.field,Sem.run_bind,run_underlying hu,Result.andThen_ok,hfd,asAgg,Sem.run_pure,part,h3,hv,Bool.false_eq_true,if_false]
  ·cases h
 ·cases h
theorem Does.xe{t:TypeId}{x:Operand}{f off s:Nat}{l:List AV}{u:AV}(hg:o.guard=none)(ho:o.op=.field t x f)(hx:ev T x=.agg l)(h:rH P t f=some (off,false,s))(hu:l[off]? =some u)
 (hk:K u H):Does P n ops o T H K:=by
 refine Does.val _ hg (λa w ρ hh hr=>?_) hk
 have h3:=hr x
 rw[hx] at h3
 generalize jR:a.eval x=xx at h3
 cases h3 with
 |agg _ vs hl hr2=>
  have hlt:off<vs.length:=by rw[<-hl];exact(List.getElem?_eq_some_iff.1 hu).1
  have hv:=List.getElem?_eq_getElem hlt
  refine⟨_,?_,hr2 off u _ hu hv⟩
  unfold execOp
  rw[ho]
  have hv':vs.toArray[off]? =some vs[off]:=by rw[List.getElem?_toArray];exact hv
  simp only[jR,Sem.run_bind,CU h hv',Result.andThen_ok,Sem.run_pure]
def j6(P:Program)(t:TypeId):Option (Nat×Nat×Nat):=
 match P.underlying t with
 |some (.slice e)=>(P.info? e).map λi=>(e,i.size,i.bytes)
 |_=>none
theorem dR{t e s b:Nat}(h:j6 P t=some (e,s,b)):P.underlying t=some (.slice e)/\P.elem t=e/\∃i,P.info? e=some i/\i.size=s/\i.bytes=b:=by
 unfold j6 at h
 split at h
 ·rename_i e' hu
  obtain⟨i,hi,hx⟩:=Option.map_eq_some_iff.1 h
  cases hx
  exact⟨hu,by simp[Program.elem,hu],i,hi,rfl,rfl⟩
 ·cases h
theorem mO{t e s b:Nat}(h:j6 P t=some (e,s,b))(w:World):(sizeOf e).run P w=.ok s w:=by
 obtain⟨_,_,i,hi,hs,_⟩:=dR h
 simp[sizeOf,typeInfo,hi,hs,go_sem]
theorem qJ{a:Act}{w:World}{t e s b:Nat}{x y:Operand}{ad:Addr}{len cap:Nat}{k:IntKind}{i:Int}(ho:o.op=.indexAddr t x y)(ht:j6 P t=some (e,s,b))(hx:a.eval x=.slice (some ad) len cap)(hy:a.eval y=.int k i)(h0:0<=i)(h1:i<len):
 (execOp a.eval o).run P w=.ok (.value (.pointer (some (ad.add (i.toNat*s))))) w:=by
 obtain⟨hu,he,_⟩:=dR ht
 have h5:=run_indexAt_slice (P:=P) (w:=w) t ad len cap k i (by rw[he];exact hu)
 rw[if_pos ⟨h0,h1⟩,he,mO ht] at h5
 unfold execOp
 rw[ho]
 simp only[hx,hy,Sem.run_bind,h5,Result.andThen_ok,Sem.run_pure]
theorem Does.bI{t e s b:Nat}{x y:Operand}{rows:List (List AV)}{k:IntKind}{i:Int}{cs:List AV}(hg:o.guard=none)(ho:o.op=.indexAddr t x y)(ht:j6 P t=some (e,s,b))(hx:ev T x=.sl rows)(hy:ev T y=.v (.int k i))(h0:0<=i)(h1:rows[i.toNat]? =some cs)(hs:cs.length=s)
 (hk:K (.rp cs) H):Does P n ops o T H K:=by
 refine Does.val _ hg (λa w ρ hh hr=>?_) hk
 have h3:=hr x
 have h4:=hr y
 rw[hx] at h3
 rw[hy] at h4
 generalize jR:a.eval x=xx at h3
 have hlt:=(List.getElem?_eq_some_iff.1 h1).1
 cases h3 with
 |nil=>simp at h1
 |sl _ ad cap sz vals hcap hmax hok hsz hc hr2=>
  have e1:sz=s:=by rw[<-hs];exact(hsz cs (List.mem_of_getElem? h1)).symm
  refine⟨_,qJ ho ht jR (aS h4) h0 (by omega),?_⟩
  refine .rp cs _ (λj=>vals i.toNat j) (λ_=>by rw[add_block];exact hok (λhe=>by rw[he] at h1;simp at h1)) (λj hj=>?_) (λj u hj=>hr2 _ cs j u h1 hj)
  rw[add_add,<-e1]
  exact hc _ cs j h1 hj
theorem Does.qA{t e s b:Nat}{x y:Operand}{id off len:Nat}{k:IntKind}{i:Int}(hg:o.guard=none)(ho:o.op=.indexAddr t x y)(ht:j6 P t=some (e,s,b))(hx:ev T x=.own id off len s)(hy:ev T y=.v (.int k i))(h0:0<=i)(h1:i<len)
 (hk:K (.ptr id ((off+i.toNat)*s)) H):Does P n ops o T H K:=by
 refine Does.val _ hg (λa w ρ hh hr=>?_) hk
 have h3:=hr x
 have h4:=hr y
 rw[hx] at h3
 rw[hy] at h4
 generalize jR:a.eval x=xx at h3
 cases h3 with
 |lW=>exact absurd h1 (by simp;omega)
 |nP=>exact absurd h1 (by simp;omega)
 |own _ _ _ _ g m cap hv hle hmax=>
  refine⟨_,qJ ho ht jR (aS h4) h0 h1,?_⟩
  rw[add_plain,<-Nat.add_mul]
  exact .ptr id _ g _ hv (.inr ⟨_,_,rfl⟩)
theorem Does.bu{t:Nat}{x y:Operand}{str:ByteArray}{k:IntKind}{i:Int}(hg:o.guard=none)(ho:o.op=.index t x y)(ht:P.underlying t=some .string)(hx:ev T x=.v (.string str))(hy:ev T y=.v (.int k i))(h0:0<=i)(h1:i<str.size){c:Int}(hcc:c=((str[i.toNat]'(by omega)).toNat:Int))
 (hk:K (.v (.int .u8 c)) H):Does P n ops o T H K:=by
 refine Does.val _ hg (λa w ρ hh hr=>?_) hk
 have h3:=hr x
 have h4:=hr y
 rw[hx] at h3
 rw[hy] at h4
 refine⟨_,?_,.v _⟩
 have h5:=run_index_string (P:=P) (w:=w) t str k i ht
 rw[dif_pos ⟨h0,h1⟩] at h5
 unfold execOp
 rw[ho]
 simp only[aS h3,aS h4,Sem.run_bind,h5,Result.andThen_ok,Sem.run_pure,hcc]
theorem Nh{ok:Nat->Prop}{ρ:gz}{w:World}{rows:List (List AV)}{A:Option Addr}{len cap s l h:Nat}(hr:dU ok ρ w (.sl rows) (.slice A len cap))(hs:∀cs∈rows,cs.length=s)(h1:l<=h)(h2:h<=rows.length):
 dU ok ρ w (.sl ((rows.take h).drop l)) (sliced A l h cap s):=by
 cases hr with
 |nil=>
  have:h=0:=by simpa using h2
  subst this
  have:l=0:=by omega
  subst this
  simpa[sliced] using dU.nil
 |sl _ a _ sz vals hcap hmax hok hsz hc hr2=>
  have hl:h-l=((rows.take h).drop l).length:=by simp;omega
  unfold sliced
  by_cases hcl:cap=l
  ·have e1:(rows.take h).drop l=[]:=by apply List.drop_eq_nil_of_le;simp;omega
   rw[if_pos hcl,hl,e1]
   exact .sl [] a _ 0 (λ_ _=>default) (by simp) (by omega) (λhn=>absurd U hn) (by simp) (by simp) (by simp)
  ·rw[if_neg hcl,hl,Option.map_some]
   refine .sl _ _ _ sz (λi j=>vals (l+i) j) (by rw[<-hl];omega) (by omega) (λhn=>by rw[add_block];exact hok (λhe=>hn (by rw[he];simp))) (λcs hcs=>hsz cs (List.mem_of_mem_take (List.mem_of_mem_drop hcs))) (λi cs j hi hj=>?_) (λi cs j u hi hj=>?_)
   ·rw[List.getElem?_drop,List.getElem?_take] at hi
    split at hi
    ·have e1:sz=s:=by rw[<-hs cs (List.mem_of_getElem? hi)];exact(hsz cs (List.mem_of_getElem? hi)).symm
     rw[add_add,<-e1,<-Nat.add_assoc,<-Nat.add_mul]
     exact hc _ cs j hi hj
    ·cases hi
   ·rw[List.getElem?_drop,List.getElem?_take] at hi
    split at hi
    ·exact hr2 _ cs j u hi hj
    ·cases hi
theorem oG{ok:Nat->Prop}{ρ:gz}{w:World}{id off len s l h:Nat}{x:Value}(hr:dU ok ρ w (.own id off len s) x)(h1:l<=h)(h2:h<=len):
 ∃A n cap,x=.slice A n cap/\n=len/\len<=cap/\dU ok ρ w (.own id (off+l) (h-l) s) (sliced A l h cap s):=by
 cases hr with
 |lW _ _ hv=>
  have:h=0:=by omega
  subst this
  have:l=0:=by omega
  subst this
  exact⟨none,0,0,rfl,rfl,Nat.le_refl _,by simpa[sliced] using dU.lW id s hv⟩
 |nP _ _ _ g m c o' c' hv h0 hm=>
  have:h=0:=by omega
  subst this
  have:l=0:=by omega
  subst this
  refine⟨_,_,_,rfl,rfl,Nat.zero_le _,?_⟩
  unfold sliced
  by_cases hc:c'=0
  ·rw[if_pos hc];exact .nP id _ s g m c _ _ hv (by omega) (by omega)
  ·rw[if_neg hc]
   simp only[Option.map_some,add_plain]
   exact .nP id _ s g m c _ _ hv (by omega) (by omega)
 |own _ _ _ _ g m cap hv hle hmax=>
  refine⟨_,_,_,rfl,rfl,by omega,?_⟩
  unfold sliced
  by_cases hc:cap-off=l
  ·rw[if_pos hc]
   have e1:h-l=0:=by omega
   rw[e1]
   by_cases hl0:l=0
   ·subst hl0
    have e2:=dU.own (ok:=ok) (w:=w) id off 0 s g m cap hv (by omega) hmax
    simpa using e2
   ·exact .nP id _ s g m cap _ _ hv (by omega) (by omega)
  ·rw[if_neg hc,Option.map_some,add_plain,<-Nat.add_mul,Nat.sub_sub]
   exact .own id (off+l) (h-l) s g m cap hv (by omega) hmax
theorem iU{a:Act}{w:World}{t:TypeId}{x:Operand}{lo hi mx:Option Operand}{r:Value}(ho:o.op=.slice t x lo hi mx)(hp:∀x,(Instr.sliceAt t x (lo.map a.eval) (hi.map a.eval) (mx.map a.eval)).run P w=(Instr.slice t x (lo.map a.eval) (hi.map a.eval) (mx.map a.eval)).run P w)
 (h:(Instr.slice t (a.eval x) (lo.map a.eval) (hi.map a.eval) (mx.map a.eval)).run P w=.ok r w):(execOp a.eval o).run P w=.ok (.value r) w:=by
 unfold execOp
 rw[ho]
 simp only[Sem.run_bind,hp,h,Result.andThen_ok,Sem.run_pure]
inductive BV (T:Sl) (len:Nat):Option Operand->Option Operand->Nat->Nat->Prop
 |all:BV T len none none 0 len
 |lo (x:Operand) (k:IntKind) (l:Nat) (h:ev T x=.v (.int k (l:Int))):BV T len (some x) none l len
 |hi (x:Operand) (k:IntKind) (h':Nat) (h:ev T x=.v (.int k (h':Int))):BV T len none (some x) 0 h'
 |both (x y:Operand) (k k':IntKind) (l h':Nat) (h:ev T x=.v (.int k (l:Int))) (hh:ev T y=.v (.int k' (h':Int))):BV T len (some x) (some y) l h'
theorem yH{a:Act}{w:World}{ρ:gz}{t e s b:Nat}{A:Option Addr}{len cap l h:Nat}{lo hi:Option Operand}(hr:∀x:Operand,dU (bF ρ H) ρ w (ev T x) (a.eval x))(ht:j6 P t=some (e,s,b))(hb:BV T len lo hi l h)(h1:l<=h)(h2:h<=len)(h3:len<=cap):
 (Instr.slice t (.slice A len cap) (lo.map a.eval) (hi.map a.eval) none).run P w=.ok (sliced A l h cap s) w:=by
 obtain⟨hu,he,_⟩:=dR ht
 have hu':P.underlying t=some (.slice (P.elem t)):=by rw[he];exact hu
 have hsz:(sizeOf (P.elem t)).run P w=.ok s w:=by rw[he];exact mO ht w
 cases hb with
 |all=>simp only[Option.map_none,run_slice_all (P:=P) w t A len cap hu',hsz,Result.andThen_ok]
 |lo x k _ hx=>
  have:=hr x;rw[hx] at this
  simp only[Option.map_none,Option.map_some,aS this]
  rw[run_slice_l (P:=P) w t A len cap hu' k l (by omega) (by omega),hsz]
  simp
 |hi x k _ hx=>
  have:=hr x;rw[hx] at this
  simp only[Option.map_none,Option.map_some,aS this]
  rw[run_slice_h (P:=P) w t A len cap hu' k h (by omega) (by omega),hsz]
  simp
 |both x y k k' _ _ hx hy=>
  have h4:=hr x;rw[hx] at h4
  have h5:=hr y;rw[hy] at h5
  simp only[Option.map_some,aS h4,aS h5]
  rw[run_slice_lh (P:=P) w t A len cap hu' k k' l h (by omega) (by omega) (by omega),hsz]
  simp
theorem Does.oH{t e s b:Nat}{x:Operand}{lo hi:Option Operand}{rows:List (List AV)}{l h:Nat}(hg:o.guard=none)(ho:o.op=.slice t x lo hi none)(ht:j6 P t=some (e,s,b))(hx:ev T x=.sl rows)(hs:∀cs∈rows,cs.length=s)
 (hb:BV T rows.length lo hi l h) (h1:l<=h) (h2:h<=rows.length) (hk:K (.sl ((rows.take h).drop l)) H):Does P n ops o T H K:=by
 refine Does.val _ hg (λa w ρ hh hr=>?_) hk
 have h3:=hr x
 rw[hx] at h3
 obtain⟨hu,he,_⟩:=dR ht
 have key:∀A cap,a.eval x=.slice A rows.length cap->rows.length<=cap->∃y,(execOp a.eval o).run P w=.ok (.value y) w/\dU (bF ρ H) ρ w (.sl ((rows.take h).drop l)) y:=by
  intro A cap jR hcap
  rw[jR] at h3
  refine⟨_,iU ho (λx=>run_sliceAt_slice (P:=P) (w:=w) t x _ _ _ (by rw[he];exact hu)) (by rw[jR];exact yH hr ht hb h1 h2 hcap),Nh h3 hs h1 h2⟩
 generalize jR:a.eval x=xx at h3
 cases h3 with
 |nil=>exact key none 0 jR (Nat.le_refl _)
 |sl _ a _ sz vals hcap hmax hok hsz hc hr2=>exact key _ _ jR hcap
theorem Does.jS{t e s b:Nat}{x:Operand}{lo hi:Option Operand}{id off len l h:Nat}(hg:o.guard=none)(ho:o.op=.slice t x lo hi none)(ht:j6 P t=some (e,s,b))(hx:ev T x=.own id off len s)
 (hb:BV T len lo hi l h) (h1:l<=h) (h2:h<=len) (hk:K (.own id (off+l) (h-l) s) H):Does P n ops o T H K:=by
 refine Does.val _ hg (λa w ρ hh hr=>?_) hk
 have h3:=hr x
 rw[hx] at h3
 obtain⟨hu,he,_⟩:=dR ht
 obtain⟨A,m,cap,jR,rfl,hle,hrep⟩:=oG h3 h1 h2
 exact⟨_,iU ho (λx=>run_sliceAt_slice (P:=P) (w:=w) t x _ _ _ (by rw[he];exact hu)) (by rw[jR];exact yH hr ht hb h1 h2 hle),hrep⟩
theorem Does.nZ{t:Nat}{x:Operand}{lo hi:Option Operand}{str:ByteArray}{l h:Nat}(hg:o.guard=none)(ho:o.op=.slice t x lo hi none)(ht:P.underlying t=some .string)(hx:ev T x=.v (.string str))
 (hb:BV T str.size lo hi l h) (h1:l<=h) (h2:h<=str.size) (hk:K (.v (.string (str.extract l h))) H):Does P n ops o T H K:=by
 refine Does.val _ hg (λa w ρ hh hr=>?_) hk
 have h3:=hr x
 rw[hx] at h3
 have h4:=aS h3
 refine⟨_,iU ho (λx=>run_sliceAt_string (P:=P) (w:=w) t x _ _ _ ht) ?_,.v _⟩
 rw[h4]
 cases hb with
 |all=>simpa using run_slice_string_all (P:=P) (w:=w) t str ht
 |lo x k _ hx=>
  have:=hr x;rw[hx] at this
  simp only[Option.map_none,Option.map_some,aS this]
  simpa using run_slice_string_l (P:=P) (w:=w) t str ht k l (by omega) (by omega)
 |hi x k _ hx=>
  have:=hr x;rw[hx] at this
  simp only[Option.map_none,Option.map_some,aS this]
  simpa using run_slice_string_h (P:=P) (w:=w) t str ht k h (by omega) (by omega)
 |both x y k k' _ _ hx hy=>
  have h4:=hr x;rw[hx] at h4
  have h5:=hr y;rw[hy] at h5
  simp only[Option.map_some,aS h4,aS h5]
  simpa using run_slice_string (P:=P) (w:=w) t str k k' l h ht (by omega) (by omega) (by omega)
theorem KO{a:Act}{w:World}{f:FuncId}{c:Operand}{args:Array Operand}{at_:Array TypeId}{bS:Array Value}(ho:o.op=.call {callee:=.value c,args:=args,argTypes:=at_})(hc:a.eval c=.func (.func f) #[] bS)(hb:HV P f):
 (execOp a.eval o).run P w=.ok (.enter f (args.map a.eval++bS)) w:=by
 obtain⟨fn,hf,hn,hbody⟩:=hb
 unfold execOp
 rw[ho]
 generalize a.eval=ρ' at hc⊢
 have hn':¬fn.name= "runtime.NumGoroutine" :=by simpa using hn
 have hb':¬fn.body=none:=by intro h;rw[h] at hbody;simp at hbody
 simp[resolve,Deferred.ofValue,hc,invoke,callFunc,go_sem,hf,hn',hb']
theorem Ci{ok:Nat->Prop}{ρ:gz}{w:World}{f:Nat}{bS:List AV}{x:Value}(h:dU ok ρ w (.gN f bS) x):∃vs,x=.func (.func f) #[] (List.toArray vs)/\KI ok ρ w bS vs:=by
 cases h with
 |gN _ _ vs hl hr=>exact⟨vs,rfl,hl,hr⟩
theorem Does.call{f:FuncId}{c:Operand}{args:Array Operand}{at_:Array TypeId}{bS:List AV}(hg:o.guard=none)(ho:o.op=.call {callee:=.value c,args:=args,argTypes:=at_})(hc:ev T c=.gN f bS)
 (h:au P f (args.toList.map (ev T)++bS) H K):Does P n ops o T H K:=by
 intro a w ρ h1 h2 h3 h4 N Q hN
 rw[if_pos (by simp[Region.wanted,hg])]
 have hr:=gP h4
 have h5:=hr c
 rw[hc] at h5
 obtain⟨vs,hv,hl,hvs⟩:=Ci h5
 unfold Oper.wp
 rw[KO ho hv h.1,Oper.upon_enter]
 have h6:=h.2 ρ w (args.toList.map a.eval++vs) h3 ⟨by simp[hl],λj u x hu hx=>by
  by_cases hj:j<args.toList.length
  ·rw[List.getElem?_append_left (by simpa using hj),List.getElem?_map] at hu hx
   rw[List.getElem?_eq_getElem hj] at hu hx
   cases hu;cases hx
   exact hr _
  ·rw[List.getElem?_append_right (by simpa using hj)] at hu hx
   simp only[List.length_map] at hu hx
   exact hvs _ u x hu hx⟩
 have e1:(args.toList.map a.eval++vs).toArray=args.map a.eval++vs.toArray:=by
  apply Array.ext'
  simp
 rw[e1] at h6
 refine h6.mono ?_
 rintro e w' ⟨x,ρ',u,H',rfl,a1,a2,a3,a4⟩
 exact hN x w' ρ' u H' a1 a2 a3 a4
theorem Does.makeFunc{f:FuncId}{bS:Array Operand}(hg:o.guard=none)(ho:o.op=.makeFunc (.func f) #[] bS)(hk:K (.gN f (bS.toList.map (ev T))) H):Does P n ops o T H K:=by
 refine Does.val _ hg (λa w ρ hh hr=>⟨.func (.func f) #[] (bS.toList.map a.eval).toArray,?_,?_⟩) hk
 ·unfold execOp
  rw[ho]
  simp[Instr.makeFunc,go_sem]
  apply Array.ext'
  simp
 ·refine .gN f _ _ (by simp) (λj u x h1 h2=>?_)
  rw[List.getElem?_map] at h1 h2
  cases hj:bS.toList[j]? with
  |none=>rw[hj] at h1;cases h1
  |some c=>
   rw[hj] at h1 h2
   cases h1;cases h2
   exact hr c
end
end Go.fT
end
