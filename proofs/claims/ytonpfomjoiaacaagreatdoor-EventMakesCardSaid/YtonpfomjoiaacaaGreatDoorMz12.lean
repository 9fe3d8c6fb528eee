/- A part of the proof. -/
import Derived.Test.YtonpfomjoiaacaaGreatDoorMz11
import Derived.Lib.AppendZerosOnto
import Derived.Lib.Overlaps
import Derived.Laws.Externs
set_option maxRecDepth 100000
set_option maxHeartbeats 4000000
set_option linter.unusedSectionVars false
set_option linter.unusedVariables false
set_option linter.unusedSimpArgs false
section
namespace Go.fT
open Go Go.RowKit
section
variable [Rd]
section
variable {P:Program} {n:Nat} {T:Sl} {H:Hp} {ops:Array Oper} {o:Oper} {K:AV->Hp->Prop}
theorem Df{a:Act}{w w':World}{x:Operand}{t:TypeId}{v':Value}(ho:o.op=.call {callee:=.builtin .cap,args:= #[x],argTypes:= #[t]})
 (h:(Builtin.cap_ #[t] o.type #[a.eval x]).run P w=.ok v' w'):(execOp a.eval o).run P w=.ok (.value v') w':=by
 unfold execOp
 rw[ho]
 simp only[resolve,List.map_toArray,List.map_cons,List.map_nil,Sem.run_bind,Sem.run_pure,Result.andThen_ok,invoke,builtin,h]
theorem oO{a:Act}{w w':World}{x y:Operand}{t t':TypeId}{v':Value}(ho:o.op=.call {callee:=.builtin .append,args:= #[x,y],argTypes:= #[t,t']})
 (h:(Builtin.append_ #[t,t'] o.type #[a.eval x,a.eval y]).run P w=.ok v' w'):(execOp a.eval o).run P w=.ok (.value v') w':=by
 unfold execOp
 rw[ho]
 simp only[resolve,List.map_toArray,List.map_cons,List.map_nil,Sem.run_bind,Sem.run_pure,Result.andThen_ok,invoke,builtin,h]
theorem uG{a:Act}{w w':World}{x y:Operand}{t t':TypeId}{v':Value}(ho:o.op=.call {callee:=.builtin .copy,args:= #[x,y],argTypes:= #[t,t']})
 (h:(Builtin.copy_ #[t,t'] o.type #[a.eval x,a.eval y]).run P w=.ok v' w'):(execOp a.eval o).run P w=.ok (.value v') w':=by
 unfold execOp
 rw[ho]
 simp only[resolve,List.map_toArray,List.map_cons,List.map_nil,Sem.run_bind,Sem.run_pure,Result.andThen_ok,invoke,builtin,h]
theorem Ic{ρ:gz}{w:World}{id off len e sz:Nat}{rows:List (List AV)}{x:Value}(h:dN ρ H w)(h2:H id=some (.row e sz rows))(hx:dU (bF ρ H) ρ w (.own id off len sz) x)(hl:0<len):
 ∃g cap cur inner,ρ id=some (.slice (some ⟨g,0,none⟩) rows.length cap)/\x=.slice (some ⟨g,off*sz,none⟩) len (cap-off)/\off+len<=cap/\0<sz/\w.heap[g]? =some (.cells cur e (0,0))/\rows.length<=cap/\cap<=maxLen/\cur.size=cap*sz/\cur.toList.take (rows.length*sz)=inner/\(∀cs∈rows,cs.length=sz)/\aX (bF ρ H) ρ w rows.flatten inner:=by
 obtain⟨v0,hv0,hz,inner,how,hrl,hc⟩:=h.ob _ _ h2
 cases hx with
 |lW _ _ hv=>omega
 |nP _ _ _ g m c o' c' hv h0 _=>omega
 |own _ _ _ _ g m cap hv Ac hmax=>
  rw[hv0] at hv
  cases hv
  rcases how.2 with ⟨h6,_⟩|⟨g',cap',cur,h6,_,hg',h7,h8,h9,h10⟩
  ·cases h6
  ·cases h6
   exact⟨_,_,_,_,hv0,rfl,Ac,hz,hg',h7,h8,h9,h10,hrl,hc⟩
theorem yT{ρ:gz}{w:World}{id off len e sz c:Nat}{rows:List (List AV)}{x:Value}(h:dN ρ H w)(h2:H id=some (.jA e sz rows c))(hx:dU (bF ρ H) ρ w (.own id off len sz) x)(hl:0<len):
 ∃g n cur inner,ρ id=some (.slice (some ⟨g,0,none⟩) n c)/\x=.slice (some ⟨g,off*sz,none⟩) len (c-off)/\off+len<=c/\0<sz/\w.heap[g]? =some (.cells cur e (0,0))/\rows.length<=c/\c<=maxLen/\cur.size=c*sz/\cur.toList.take (rows.length*sz)=inner/\(∀cs∈rows,cs.length=sz)/\aX (bF ρ H) ρ w rows.flatten inner:=by
 obtain⟨v0,hv0,hz,g0,n0,inner,cur,rfl,hg,h1,h3,h4,h5,h6,hc⟩:=h.ob _ _ h2
 cases hx with
 |lW _ _ hv=>omega
 |nP _ _ _ g m c o' c' hv h0 _=>omega
 |own _ _ _ _ g m cap hv Ac hmax=>
  rw[hv0] at hv
  cases hv
  exact⟨_,_,_,_,hv0,rfl,Ac,hz,hg,h1,h3,h4,h5,h6,hc⟩
theorem Does.cap{t e s b:Nat}{x:Operand}{id len:Nat}{rows:List (List AV)}(hg:o.guard=none)(ho:o.op=.call {callee:=.builtin .cap,args:= #[x],argTypes:= #[t]})(ht:j6 P t=some (e,s,b))(hx:ev T x=.own id 0 len s)(h2:H id=some (.row e s rows))(hl:0<len)
 (hk:∀c,rows.length<=c->len<=c->c<=maxLen->K (.v (.int .i64 (c:Int))) (set H id (some (.jA e s rows c)))):Does P n ops o T H K:=by
 intro a w ρ h1 hd h3 h4 N Q hN
 rw[if_pos (by simp[Region.wanted,hg])]
 have h5:=gP h4 x
 rw[hx] at h5
 obtain⟨g,cap,cur,inner,q1,q2,q3,q4,q5,q6,q7,q8,q9,Ie,M9⟩:=Ic h3 h2 h5 hl
 obtain⟨hu,he,_⟩:=dR ht
 have hw:=h3.write (.jA e s rows cap) h2 q1 U U U (Nat.le_refl _) (λ_ _ _=>rfl) (λρ' H' e' _=>⟨q4,g,rows.length,inner,cur,rfl,q5,q6,q7,q8,q9,Ie,e'.cells M9⟩)
 unfold Oper.wp
 rw[Df (v':=goInt cap) (w':=w) ho (by
  rw[q2]
  simp[Builtin.cap_,run_underlying hu])]
 exact hN _ w ρ _ _ hw.1 hw.2 (.v _) (hk cap q6 (by omega) q7)
theorem Does.Nr{t e s b:Nat}{x:Operand}{lo hi:Option Operand}{id len l h c:Nat}{rows:List (List AV)}(hg:o.guard=none)(ho:o.op=.slice t x lo hi none)(ht:j6 P t=some (e,s,b))(hx:ev T x=.own id 0 len s)(h2:H id=some (.jA e s rows c))(hl:0<len)
 (hb:BV T c lo hi l h) (hhi:hi≠none) (h1:l<=h) (hh:h<=c) (hk:K (.own id l (h-l) s) H):Does P n ops o T H K:=by
 refine Does.val _ hg (λa w ρ hrel hr=>?_) hk
 have h3:=hr x
 rw[hx] at h3
 obtain⟨g,m,cur,inner,q1,q2,q3,q4,q5,q6,q7,q8,q9,Ie,M9⟩:=yT hrel h2 h3 hl
 obtain⟨hu,he,_⟩:=dR ht
 have hrep:dU (bF ρ H) ρ w (.own id 0 c s) (.slice (some ⟨g,0,none⟩) c c):=by
  have:=dU.own (ok:=bF ρ H) (w:=w) id 0 c s g m c q1 (by omega) q7
  simpa using this
 obtain⟨A',m',cap',e1,e2,e3,e4⟩:=oG hrep h1 hh
 cases e1
 rw[Nat.zero_add] at e4
 refine⟨_,iU ho (λx=>run_sliceAt_slice (P:=P) (w:=w) t x _ _ _ (by rw[he];exact hu)) ?_,e4⟩
 have:=yH (A:=some ⟨g,0,none⟩) (cap:=c) hr ht hb h1 hh (Nat.le_refl _)
 rw[q2]
 simp only[Nat.zero_mul,Nat.sub_zero]
 have hu':P.underlying t=some (.slice (P.elem t)):=by rw[he];exact hu
 have hsz:(sizeOf (P.elem t)).run P w=.ok s w:=by rw[he];exact mO ht w
 cases hb with
 |all=>exact absurd U hhi
 |lo y k _ hy=>exact absurd U hhi
 |hi y k _ hy=>
  have hy':=hr y;rw[hy] at hy'
  simp only[Option.map_none,Option.map_some,aS hy']
  rw[run_slice_h (P:=P) w t _ len c hu' k h (by omega) (by omega),hsz]
  simp
 |both y z k k' _ _ hy hz=>
  have hy':=hr y;rw[hy] at hy'
  have hz':=hr z;rw[hz] at hz'
  simp only[Option.map_some,Option.map_none,aS hy',aS hz']
  rw[run_slice_lh (P:=P) w t _ len c hu' k k' l h (by omega) (by omega) (by omega),hsz]
  simp
theorem Does.QL{t tn e sz b:Nat}{x y:Operand}{id i k c:Nat}{kq kn:IntKind}{rows:List (List AV)}{zv:Value}{zs:List AV}(hg:o.guard=none)(ho:o.op=.call {callee:=.builtin .append,args:= #[x,y],argTypes:= #[t,tn]})(ht:jE P t e sz b)(htn:P.underlying tn=some (.int kn))
 (hx:ev T x=.own id 0 i sz) (h2:H id=some (.jA e sz rows c)) (hy:ev T y=.v (.int kq (k:Int))) (hi:i<=rows.length) (h0:0<rows.length) (hgr:c<i+k) (hb:(i+k)*b<=140737488355328) (hz0:(P.info? e).map (·.zero)=some (some zv)) (hzs:zv.cells.toList.map AV.v=zs)
 (hk:∀id',H id'=none->K (.own id' 0 (i+k) sz) (set H id' (some (.row e sz (rows.take i++List.replicate k zs))))):Does P n ops o T H K:=by
 refine Does.yG hg λa w ρ hrel hr=>?_
 have h3:=hr x
 rw[hx] at h3
 have hyv:=aS (by have:=hr y;rw[hy] at this;exact this)
 obtain⟨v0,hv0,hz,g0,n0,inner,cur,rfl,hgc,q1,q3,q4,q5,q6,hc⟩:=hrel.ob _ _ h2
 obtain⟨hu,he,inf,KZ,hsi,hbi⟩:=dR ht.sl
 have hzr:inf.zero=some zv:=by rw[KZ] at hz0;simpa using hz0
 obtain⟨z2,hz2,Np,hz1⟩:=ht.zero
 rw[hz0] at hz2;cases hz2
 have hxs:∃len',a.eval x=.slice (some ⟨g0,0,none⟩) i c/\len'=i:=by
  generalize jR:a.eval x=xx at h3
  cases h3 with
  |lW _ _ hv=>rw[hv0] at hv;cases hv
  |nP _ _ _ g m c o' c' hv h0 _=>exact absurd U h0
  |own _ _ _ _ g m cap hv Ac hmax=>rw[hv0] at hv;cases hv;exact⟨i,by simp,rfl⟩
 obtain⟨_,jR,_⟩:=hxs
 have hil:inner.length=rows.length*sz:=by rw[<-hc.1,dQ sz _ q6]
 have hik:0<k:=by omega
 have hkb:k*b<=(i+k)*b:=Nat.mul_le_mul_right _ (by omega)
 have hb1:i+k<=(i+k)*b:=Nat.le_mul_of_pos_right _ ht.b
 have hold:(Builtin.firstCells inf.size i (.slice (some ⟨g0,0,none⟩) i c)).run P w.drew=.ok (inner.take (i*sz)).toArray w.drew:=by
  rw[hsi]
  refine run_firstCells_some (P:=P) w.drew sz i ⟨g0,0,none⟩ i c (inner.take (i*sz)) ?_ ?_
  ·rw[List.length_take,hil];exact Nat.min_eq_left (Nat.mul_le_mul_right _ hi)
  ·intro j u hj
   have hj2:cur[j]? =some u:=by
    rw[List.getElem?_take] at hj
    split at hj
    ·rw[<-q5,List.getElem?_take] at hj
     split at hj
     ·simpa using hj
     ·cases hj
    ·cases hj
   rw[add_plain,Nat.zero_add]
   show World.cell? w.drew _=_
   have:w.drew.heap=w.heap:=rfl
   simp[World.cell?,this,hgc,hj2]
 have hfit:Builtin.nextslicecap (i+k) c*inf.bytes<=281474976710656:=by
  rw[hbi]
  have h7:Builtin.nextslicecap (i+k) c<=2*(i+k):=nextslicecap_le (by omega)
  have:=Nat.mul_le_mul_right b h7
  rw[Nat.mul_assoc] at this
  omega
 have hrun:=Lib.run_append_grow_zeros (P:=P) w t tn o.type e inf zv kq kn hu htn KZ hzr (some ⟨g0,0,none⟩) i c (inner.take (i*sz)) hold k hik (by rw[hsi];exact ht.sz) hgr (by omega) (by rw[hbi];omega) hfit
 have hzl:∀cs∈List.replicate k zs,cs.length=sz:=λcs hcs=>by rw[List.eq_of_mem_replicate hcs,<-hzs];simpa using Np
 have hge:=grownCap_ge w (i+k) c e
 have hle:=grownCap_le_maxLen w (i+k) c e (by simp only[maxLen];omega)
 have hzc:(Builtin.zeroCells zv.cells k).toList=(List.replicate k zv.cells.toList).flatten:=lD _ _ (by rw[Np];exact ht.sz)
 have ZX:∀m,(Builtin.zeroCells zv.cells m).size=m*sz:=λm=>by unfold Builtin.zeroCells;simp[Np]
 have ZY:(inner.take (i*sz)).length=i*sz:=by rw[List.length_take,hil];exact Nat.min_eq_left (Nat.mul_le_mul_right _ hi)
 have hlen:(rows.take i++List.replicate k zs).length=i+k:=by simp;omega
 refine⟨_,.slice (some ⟨w.heap.size,0,none⟩) (i+k) (grownCap w (i+k) c e),_,.row e sz (rows.take i++List.replicate k zs),oO ho (by rw[jR,hyv];exact hrun),((Below.refl _ w).drew).alloc (Nat.le_refl _) _,?_,λρ' H' e'=>?_,λid' hid=>⟨.own id' 0 (i+k) sz,λok' ρ' hρ=>?_,hk id' hid⟩⟩
 ·intro k' hk'
  simp[blk] at hk'
  subst hk'
  refine⟨Nat.le_refl _,?_⟩
  rw[size_alloc]
  exact Nat.lt_succ_self _
 ·refine⟨ht.sz,inner.take (i*sz)++(Builtin.zeroCells zv.cells k).toList,⟨?_,.inr ⟨w.heap.size,grownCap w (i+k) c e,_,by rw[hlen],Nat.zero_le _,heap_alloc_new w.drew _,by rw[hlen];exact hge,hle,?_,?_⟩⟩,?_,?_⟩
  ·rw[hlen,List.length_append,ZY,Array.length_toList,ZX,Nat.add_mul]
  ·simp only[Array.size_append,List.size_toArray,ZY,ZX]
   rw[<-Nat.add_mul,<-Nat.add_mul]
   congr 1;omega
  ·rw[hlen]
   simp only[Array.toList_append]
   rw[List.take_left']
   rw[List.length_append,ZY,Array.length_toList,ZX,Nat.add_mul]
  ·intro cs hcs
   rcases List.mem_append.1 hcs with h|h
   ·exact q6 cs (List.mem_of_mem_take h)
   ·exact hzl cs h
  ·rw[List.flatten_append,gF sz _ _ q6]
   refine gZ ?_ ?_
   ·have:=fq (e'.cells hc) 0 (i*sz)
    simpa using this
   ·rw[hzc]
    have e1:(List.replicate k zs).flatten=((List.replicate k zv.cells.toList).flatten).map AV.v:=by rw[List.map_flatten,List.map_replicate,hzs]
    rw[e1]
    exact jG _ (by
     rw[List.all_eq_true]
     intro y hy
     obtain⟨l',hl',hy'⟩:=List.mem_flatten.1 hy
     rw[List.eq_of_mem_replicate hl'] at hy'
     exact List.all_eq_true.1 hz1 y hy')
 ·have:=dU.own (ok:=ok') (ρ:=ρ') (w:=w.drew.alloc (.cells ((inner.take (i*sz)).toArray++Builtin.zeroCells zv.cells k++Builtin.zeroCells zv.cells (grownCap w (i+k) c e-(i+k))) e)) id' 0 (i+k) sz w.heap.size (i+k) (grownCap w (i+k) c e) hρ (by omega) hle
  simpa using this
inductive QM (H:Hp) (sz:Nat):AV->Nat->List (List AV)->Prop
 |of (u:AV) (rows:List (List AV)) (m:Nat) (h:Src H sz u rows) (hm:m<=rows.length):QM H sz u rows.length (rows.take m)
 |jA (id off len e c:Nat) (iJ:List (List AV)) (m:Nat) (h:H id=some (.jA e sz iJ c)) (hm:m<=len) (hle:off+m<=iJ.length):QM H sz (.own id off len sz) len ((iJ.drop off).take m)
theorem K3{sz ls:Nat}(hz:0<sz){u:AV}{news:List (List AV)}{ρ:gz}{w:World}{x:Value}(hr:dN ρ H w)(h:QM H sz u ls news)(hx:dU (bF ρ H) ρ w u x):
 ∃nv,aX (bF ρ H) ρ w news.flatten nv/\nv.length=news.length*sz/\(∀cs∈news,cs.length=sz)/\((∃c,x=.slice none 0 c/\ls=0/\news=[])\/∃ad c,x=.slice (some ad) ls c/\∀j y,nv[j]? =some y->w.cell? (ad.add j)=some y):=by
 cases h with
 |of _ rows m hs hm=>
  obtain⟨nv,h1,h2,h3⟩:=HZ hz hr hs hx
  have hrl:=yI hr hs
  have htl:(rows.take m).length=m:=by rw[List.length_take];omega
  refine⟨nv.take (m*sz),?_,?_,λcs hcs=>hrl cs (List.mem_of_mem_take hcs),?_⟩
  ·rw[gF sz _ _ hrl]
   have:=fq h1 0 (m*sz)
   simpa using this
  ·rw[List.length_take,h2,htl];exact Nat.min_eq_left (Nat.mul_le_mul_right _ hm)
  ·rcases h3 with ⟨rfl,rfl⟩|⟨ad,c,rfl,hc⟩
   ·exact .inl ⟨0,rfl,rfl,by simp⟩
   ·refine .inr ⟨ad,c,rfl,λj y hj=>hc j y ?_⟩
    rw[List.getElem?_take] at hj
    split at hj
    ·exact hj
    ·cases hj
 |jA id off _ e c iJ m h hm hle=>
  by_cases hls:ls=0
  ·subst hls
   have hm0:m=0:=by omega
   subst hm0
   cases hx with
   |lW _ _ hv=>exact⟨[],by simpa using gD,by simp,by simp,.inl ⟨0,rfl,rfl,by simp⟩⟩
   |own _ _ _ _ g n cap hv Ac hmax=>exact⟨[],by simpa using gD,by simp,by simp,.inr ⟨_,_,rfl,λj y hj=>by simp at hj⟩⟩
   |nP _ _ _ g m c o' c' hv h0 _=>exact⟨[],by simpa using gD,by simp,by simp,.inr ⟨_,_,rfl,λj y hj=>by simp at hj⟩⟩
  ·obtain⟨g,n,cur,inner,q1,q2,q3,q4,q5,q6,q7,q8,q9,Ie,M9⟩:=yT hr h hx (by omega)
   have hil:inner.length=iJ.length*sz:=by rw[<-M9.1,dQ sz _ Ie]
   have hdt:∀cs∈(iJ.drop off).take m,cs.length=sz:=λcs hcs=>Ie cs (List.mem_of_mem_drop (List.mem_of_mem_take hcs))
   have hlt:((iJ.drop off).take m).length=m:=by simp;omega
   have hmm:off*sz+m*sz<=iJ.length*sz:=by rw[<-Nat.add_mul];exact Nat.mul_le_mul_right _ hle
   refine⟨(inner.drop (off*sz)).take (m*sz),?_,?_,hdt,.inr ⟨_,_,q2,λj y hj=>?_⟩⟩
   ·rw[gF sz _ _ (λcs hcs=>Ie cs (List.mem_of_mem_drop hcs)),lg sz _ _ Ie]
    exact fq M9 _ _
   ·rw[List.length_take,List.length_drop,hil,hlt];omega
   ·rw[List.getElem?_take] at hj
    split at hj
    ·rw[List.getElem?_drop,<-q9,List.getElem?_take] at hj
     split at hj
     ·rw[add_plain]
      have hj2:cur[off*sz+j]? =some y:=by simpa using hj
      simp[World.cell?,q5,hj2]
     ·cases hj
    ·cases hj
theorem rV{w:World}{e0 t t' ty e sz b g p dl dc ls:Nat}{cur:Array Value}{x:Value}{nv:List Value}{m:Nat}(ht:j6 P t=some (e,sz,b))(hgc:w.heap[g]? =some (.cells cur e0 (0,0)))(hm:Nat.min ls dl=m)(hl:nv.length=m*sz)(h1:∀v∈nv,v.oneCell'=true)
 (hsrc:(∃c,x=.slice none 0 c/\ls=0)\/∃ad c,x=.slice (some ad) ls c/\∀j y,nv[j]? =some y->w.cell? (ad.add j)=some y) (hfit:p+m*sz<=cur.size):
 ∃w',(Builtin.copy_ #[t,t'] ty #[.slice (some ⟨g,p,none⟩) dl dc,x]).run P w=.ok (goInt m) w'/\Wrote w w' g (.cells (fH cur.toList p nv).toArray e0 (0,0)):=by
 obtain⟨hu,he,i,hi,hsi,hbi⟩:=dR ht
 obtain⟨w',hst,hw⟩:=rG (P:=P) g e0 p nv 0 w cur hgc (by rw[hl];simpa using hfit) h1
 refine⟨w',?_,by simpa using hw⟩
 have hsz:(sizeOf e).run P w=.ok sz w:=by simp[sizeOf,typeInfo,hi,hsi,go_sem]
 rcases hsrc with ⟨c,rfl,rfl⟩|⟨ad,c,rfl,hc⟩
 ·have hm0:m=0:=by rw[<-hm];simp[Nat.min_def]
  subst hm0
  have hn0:nv=[]:=List.eq_nil_of_length_eq_zero (by simpa using hl)
  subst hn0
  obtain rfl:w=w':=by simpa[storeCells,go_sem] using hst
  simp[Builtin.copy_,run_underlying hu,Builtin.lenOf,Builtin.firstCells,hsz,go_sem,Nat.min_def]
 ·have hf:=run_firstCells_some (P:=P) w sz m ad ls c nv hl hc
  simp only[Builtin.firstCells,loadCells] at hf
  have hm':ls.min dl=m:=hm
  simp[Builtin.copy_,run_underlying hu,Builtin.lenOf,Builtin.firstCells,loadCells,hsz,hm',hf,hst,go_sem]
theorem Does.Te{t t' e sz b:Nat}{x y:Operand}{id off dl ls m:Nat}{rows news:List (List AV)}(hg:o.guard=none)(ho:o.op=.call {callee:=.builtin .copy,args:= #[x,y],argTypes:= #[t,t']})(ht:j6 P t=some (e,sz,b))
 (hx:ev T x=.own id off dl sz) (h2:H id=some (.row e sz rows)) (hd0:0<dl) (hsrc:QM H sz (ev T y) ls news) (hm:Nat.min ls dl=m) (hnl:news.length=m) (hle:off+m<=rows.length)
 (hk:K (.v (.int .i64 (m:Int))) (set H id (some (.row e sz (rows.take off++news++rows.drop (off+m)))))):Does P n ops o T H K:=by
 intro a w ρ h1 hd h3 h4 N Q hN
 rw[if_pos (by simp[Region.wanted,hg])]
 have hr:=gP h4
 have h5:=hr x
 rw[hx] at h5
 obtain⟨g,cap,cur,inner,q1,q2,q3,q4,q5,q6,q7,q8,q9,Ie,M9⟩:=Ic h3 h2 h5 hd0
 obtain⟨nv,r1,r2,r3,r4⟩:=K3 q4 h3 hsrc (hr y)
 have hil:inner.length=rows.length*sz:=by rw[<-M9.1,dQ sz _ Ie]
 have hfit:off*sz+m*sz<=cur.size:=by rw[q8,<-Nat.add_mul];exact Nat.mul_le_mul_right _ (by omega)
 have hone:∀v∈nv,v.oneCell'=true:=λv hv=>by
  obtain⟨j,hj⟩:=List.getElem?_of_mem hv
  have hlt:j<news.flatten.length:=by rw[r1.1];exact(List.getElem?_eq_some_iff.1 hj).1
  exact(r1.2 j _ v (List.getElem?_eq_getElem hlt) hj).2
 obtain⟨w',hrun,hw⟩:=rV (P:=P) (t':=t') (ty:=o.type) (dl:=dl) (dc:=cap-off) ht q5 hm (by rw[r2,hnl]) hone (r4.imp (λ⟨c,a1,a2,_⟩=>⟨c,a1,a2⟩) (λh=>h)) hfit
 unfold Oper.wp
 rw[uG ho (by rw[q2];exact hrun)]
 have hsp:(rows.take off++news++rows.drop (off+m))=rows.take off++news++rows.drop (off+news.length):=by rw[hnl]
 have:=h3.write (.row e sz (rows.take off++news++rows.drop (off+m))) h2 q1 hw.os hw.tape hw.output (by rw[hw.size];exact Nat.le_refl _) (λk _ hk=>hw.block k (λe=>hk (by rw[e];rfl)))
  (λρ' H' e' _=>by rw[hsp];exact rT q4 Ie r3 (by omega) U q6 q7 q8 q9 hil M9 r1 hw.at_ e')
 exact hN _ w' ρ _ _ this.1 this.2 (.v _) hk
theorem Does.QN{t t' e sz b:Nat}{x y:Operand}{id off dl ls m c:Nat}{rows news:List (List AV)}(hg:o.guard=none)(ho:o.op=.call {callee:=.builtin .copy,args:= #[x,y],argTypes:= #[t,t']})(ht:j6 P t=some (e,sz,b))
 (hx:ev T x=.own id off dl sz) (h2:H id=some (.jA e sz rows c)) (hd0:0<dl) (hsrc:QM H sz (ev T y) ls news) (hm:Nat.min ls dl=m) (hnl:news.length=m) (hle:off<=rows.length) (hc:off+m<=c)
 (hk:K (.v (.int .i64 (m:Int))) (set H id (some (.jA e sz (rows.take off++news++rows.drop (off+m)) c)))):Does P n ops o T H K:=by
 intro a w ρ h1 hd h3 h4 N Q hN
 rw[if_pos (by simp[Region.wanted,hg])]
 have hr:=gP h4
 have h5:=hr x
 rw[hx] at h5
 obtain⟨g,n0,cur,inner,q1,q2,q3,q4,q5,q6,q7,q8,q9,Ie,M9⟩:=yT h3 h2 h5 hd0
 obtain⟨nv,r1,r2,r3,r4⟩:=K3 q4 h3 hsrc (hr y)
 have hil:inner.length=rows.length*sz:=by rw[<-M9.1,dQ sz _ Ie]
 have hfit:off*sz+m*sz<=cur.size:=by rw[q8,<-Nat.add_mul];exact Nat.mul_le_mul_right _ (by omega)
 have hone:∀v∈nv,v.oneCell'=true:=λv hv=>by
  obtain⟨j,hj⟩:=List.getElem?_of_mem hv
  have hlt:j<news.flatten.length:=by rw[r1.1];exact(List.getElem?_eq_some_iff.1 hj).1
  exact(r1.2 j _ v (List.getElem?_eq_getElem hlt) hj).2
 obtain⟨w',hrun,hw⟩:=rV (P:=P) (t':=t') (ty:=o.type) (dl:=dl) (dc:=c-off) ht q5 hm (by rw[r2,hnl]) hone (r4.imp (λ⟨c,a1,a2,_⟩=>⟨c,a1,a2⟩) (λh=>h)) hfit
 unfold Oper.wp
 rw[uG ho (by rw[q2];exact hrun)]
 have Vy:nv.length=m*sz:=by rw[r2,hnl]
 have hlen:(rows.take off++news++rows.drop (off+m)).length=max rows.length (off+m):=by simp[hnl];omega
 have:=h3.write (.jA e sz (rows.take off++news++rows.drop (off+m)) c) h2 q1 hw.os hw.tape hw.output (by rw[hw.size];exact Nat.le_refl _) (λk _ hk=>hw.block k (λe=>hk (by rw[e];rfl)))
  (λρ' H' e' _=>by
    refine⟨q4,g,n0,inner.take (off*sz)++nv++inner.drop ((off+m)*sz),_,rfl,hw.at_,by rw[hlen];omega,q7,by simp[gI,q8],?_,λcs hcs=>?_,?_⟩
    ·show(fH cur.toList _ nv).take _=_
     rw[hlen,uD _ _ _ (by rw[Vy];simpa using hfit),Vy,<-q9]
     have hoff:off*sz<=rows.length*sz:=Nat.mul_le_mul_right _ hle
     have hcl:cur.toList.length=c*sz:=by simpa using q8
     rw[List.take_take,Nat.min_eq_left hoff]
     rcases Nat.le_total rows.length (off+m) with hcase|hcase
     ·rw[Nat.max_eq_right hcase]
      have h6:rows.length*sz<=(off+m)*sz:=Nat.mul_le_mul_right _ hcase
      rw[List.drop_of_length_le (l:=List.take (rows.length*sz) cur.toList) (by rw[List.length_take];omega),List.append_nil,List.take_left']
      rw[List.length_append,List.length_take,hcl,Vy,Nat.add_mul]
      have:off*sz<=c*sz:=Nat.mul_le_mul_right _ (by omega)
      omega
     ·rw[Nat.max_eq_left hcase]
      have h6:(off+m)*sz<=rows.length*sz:=Nat.mul_le_mul_right _ hcase
      have h7:rows.length*sz<=c*sz:=Nat.mul_le_mul_right _ q6
      have h8:(cur.toList.take (off*sz)++nv).length=(off+m)*sz:=by
       rw[List.length_append,List.length_take,hcl,Vy,Nat.add_mul]
       have:off*sz<=c*sz:=Nat.mul_le_mul_right _ (by omega)
       omega
      rw[List.take_append,h8,List.take_of_length_le (by omega),Nat.add_mul]
      congr 1
      rw[List.drop_take]
    ·rcases List.mem_append.1 hcs with hcs|hcs
     ·rcases List.mem_append.1 hcs with hcs|hcs
      ·exact Ie cs (List.mem_of_mem_take hcs)
      ·exact r3 cs hcs
     ·exact Ie cs (List.mem_of_mem_drop hcs)
    ·rw[List.flatten_append,List.flatten_append,gF sz _ _ Ie,lg sz _ _ Ie]
     refine e'.cells (gZ (gZ ?_ r1) ?_)
     ·have:=fq M9 0 (off*sz)
      simpa using this
     ·have:=fq M9 ((off+m)*sz) (inner.length)
      rw[List.take_of_length_le (by rw[List.length_drop,M9.1];omega),List.take_of_length_le (by rw[List.length_drop];omega)] at this
      exact this)
 exact hN _ w' ρ _ _ this.1 this.2 (.v _) hk
theorem Does.overlaps{t tr e sz b:Nat}{f:FuncId}{fn:Func}{cc x y:Operand}{at_:Array TypeId}{ZZ jQ Tf Tg lQ QO c:Nat}{rows1 Ti:List (List AV)}(hg:o.guard=none)(ho:o.op=.call {callee:=.value cc,args:= #[x,y],argTypes:=at_})(hc:ev T cc=.gN f [])
 (hf:P.funcs[f]? =some fn) (hname:(fn.name== "runtime.NumGoroutine")=false) (hb:fn.body.isNone=true) (hn:Extern.findNext fn=none) (he:Extern.find fn=some (Extern.SlicesOverlaps.overlaps #[t,t] #[tr])) (ht:j6 P t=some (e,sz,b))
 (hx:ev T x=.own ZZ Tf lQ sz) (h1:H ZZ=some (.row e sz rows1)) (hy:ev T y=.own jQ Tg QO sz) (h2:H jQ=some (.jA e sz Ti c)) (hne:ZZ≠jQ) (hl1:0<lQ) (hl2:0<QO) (hk:K (.v (.bool false)) H):Does P n ops o T H K:=by
 refine Does.val _ hg (λa w ρ h hr=>?_) hk
 have h5:=hr cc;rw[hc] at h5
 have h6:=hr x;rw[hx] at h6
 have h7:=hr y;rw[hy] at h7
 obtain⟨vs,hv,hl,hvs⟩:=Ci h5
 have Td:vs=[]:=List.eq_nil_of_length_eq_zero (by simpa using hl.symm)
 subst Td
 obtain⟨g1,Z0,cur1,inner1,a1,a2,a3,a4,a5,a6,a7,a8,a9,a10,a11⟩:=Ic h h1 h6 hl1
 obtain⟨g2,m2,cur2,inner2,b1,b2,b3,b4,b5,b6,b7,b8,b9,b10,b11⟩:=yT h h2 h7 hl2
 have hgne:g1≠g2:=λhgg=>hne (h.apart ZZ jQ _ _ _ _ g1 h1 h2 a1 b1 U (by rw[hgg];rfl))
 obtain⟨hu,he2,_⟩:=dR ht
 refine⟨_,?_,.v _⟩
 have h8:=run_callFunc_extern (P:=P) hf hname hb hn he #[a.eval x,a.eval y] w
 rw[a2,b2,Lib.run_overlaps_apart w t tr e hu sz (λw=>mO ht w) ⟨g1,Tf*sz,none⟩ ⟨g2,Tg*sz,none⟩ lQ (Z0-Tf) QO (c-Tg) hgne e e cur1.size cur2.size (by simp[World.shape?,a5]) (by simp[World.shape?,b5]) (by rw[b8];exact Nat.ne_of_gt (Nat.mul_pos (by omega) b4)) (by simp[World.frozen?,a5]) (by simp[World.frozen?,a5])] at h8
 unfold execOp
 rw[ho]
 generalize a.eval=ev' at hv a2 b2⊢
 simp only[resolve,Deferred.ofValue,hv,invoke,Sem.run_bind,Sem.run_pure,Result.andThen_ok,List.map_toArray,List.map_cons,List.map_nil,a2,b2]
 simpa using h8
end
section
variable {P:Program} {n:Nat} {ops:Array Oper} {Q:qH->Sl->Hp->Prop} {H0:Hp} {l:List (Nat×AV)} {I aL:List (Nat×Ob)} {rest:List Oper} {c1 c2:Code}
variable {dst:Option Nat} {ty:TypeId} {ps:String} {af:Array Edge} {op:Op} {o:Oper} {x y z v:Operand} {u r:AV} {t t2 t' tn tr e sz b:Nat} {id jQ k k2 off dn fn_ g len c m:Nat} {ob:Ob} {rows Ti rws news:List (List AV)} {lo hi:Option Operand}
variable {K:AV->List (Nat×Ob)->Prop} {ki kj kn kq:IntKind}
theorem D.cap(k:Nat)(ht:j6 P t=some (e,sz,b))(hx:aT l x=some (.own id 0 len sz))(h2:I[k]? =some (id,.row e sz rows))(hl:0<len)
 (hk:∀c,rows.length<=c->len<=c->c<=maxLen->K (.v (.int .i64 (c:Int))) (I.set k (id,.jA e sz rows c))):DS P n ops H0 ⟨dst,.call {callee:=.builtin .cap,args:= #[x],argTypes:= #[t]},ty,ps,af,none⟩ l I K:=
 λay=>Does.cap U U ht (aG hx) (ay.at_ h2) hl λc h1 h3 h4=>⟨_,(ay.jF _ h2).1,(ay.jF _ h2).2,hk c h1 h3 h4⟩
theorem D.slr{a a':Nat}(k:Nat)(ht:j6 P t=some (e,sz,b))(hx:aT l x=some (.own id 0 len sz))(h2:I[k]? =some (id,.jA e sz rows c))(hl:0<len)(hb:lh l c lo hi a a')(hhi:hi≠none)(h1:a<=a')(hh:a'<=c)(hk:K (.own id a (a'-a) sz) I):DS P n ops H0 ⟨dst,.slice t x lo hi none,ty,ps,af,none⟩ l I K:=
 λay=>Does.Nr U U ht (aG hx) (ay.at_ h2) hl hb.to hhi h1 hh ⟨I,rfl,ay,hk⟩
theorem D.apz{i m:Nat}{zv:Value}{zs:List AV}(k:Nat)(ht:jE P t e sz b)(htn:P.underlying tn=some (.int kn))(hx:aT l x=some (.own id 0 i sz))(h2:I[k]? =some (id,.jA e sz rows c))(hy:aT l y=some (.v (.int kq (m:Int))))(hi:i<=rows.length)(h0:0<rows.length)(hgr:c<i+m)(hb:(i+m)*b<=140737488355328)
 (hz0:(P.info? e).map (·.zero)=some (some zv)) (hzs:zv.cells.toList.map AV.v=zs) (hr:rows.take i++List.replicate m zs=rws) (hk:∀id',id'≠id->K (.own id' 0 (i+m) sz) ((id',.row e sz rws)::I)):DS P n ops H0 ⟨dst,.call {callee:=.builtin .append,args:= #[x,y],argTypes:= #[t,tn]},ty,ps,af,none⟩ l I K:=by
 subst hr
 exactλay=>Does.QL U U ht htn (aG hx) (ay.at_ h2) (aG hy) hi h0 hgr hb hz0 hzs λid' hid=>⟨(id',.row e sz (rows.take i++List.replicate m zs))::I,rfl,.cons hid ay,hk id' (λhe=>by rw[he,ay.at_ h2] at hid;cases hid)⟩
inductive Gn (I:List (Nat×Ob)) (sz:Nat):AV->Nat->List (List AV)->Prop
 |of {u:AV} {rows news:List (List AV)} {m ls:Nat} (h:rO I sz u rows) (hm:m<=rows.length) (hls:rows.length=ls) (hr:rows.take m=news):Gn I sz u ls news
 |jA {id off len e c k:Nat} {iJ news:List (List AV)} {m:Nat} (h:I[k]? =some (id,.jA e sz iJ c)) (hm:m<=len) (hle:off+m<=iJ.length) (hr:(iJ.drop off).take m=news):Gn I sz (.own id off len sz) len news
theorem Gn.to(hd:aM H0 I){u:AV}{ls:Nat}{rs:List (List AV)}(h:Gn I sz u ls rs):QM (aC H0 I) sz u ls rs:=by
 cases h with
 |of h hm hls hr=>subst hls hr;exact .of _ _ _ (h.to hd) hm
 |jA h hm hle hr=>subst hr;exact .jA _ _ _ _ _ _ _ (hd.at_ h) hm hle
theorem D.cpr{dl ls:Nat}(k:Nat)(ht:j6 P t=some (e,sz,b))(hx:aT l x=some (.own id off dl sz))(h2:I[k]? =some (id,.row e sz rows))(hy:aT l y=some u)(hd0:0<dl)(hsrc:Gn I sz u ls news)(hm:Nat.min ls dl=m)(hnl:news.length=m)(hle:off+m<=rows.length)(hr:rows.take off++news++rows.drop (off+m)=rws)
 (hk:K (.v (.int .i64 (m:Int))) (I.set k (id,.row e sz rws))):DS P n ops H0 ⟨dst,.call {callee:=.builtin .copy,args:= #[x,y],argTypes:= #[t,t']},ty,ps,af,none⟩ l I K:=by
 subst hr
 exactλay=>Does.Te U U ht (aG hx) (ay.at_ h2) hd0 (by rw[aG hy];exact hsrc.to ay) hm hnl hle ⟨_,(ay.jF _ h2).1,(ay.jF _ h2).2,hk⟩
theorem D.cpc{dl ls:Nat}(k:Nat)(ht:j6 P t=some (e,sz,b))(hx:aT l x=some (.own id off dl sz))(h2:I[k]? =some (id,.jA e sz rows c))(hy:aT l y=some u)(hd0:0<dl)(hsrc:Gn I sz u ls news)(hm:Nat.min ls dl=m)(hnl:news.length=m)(hle:off<=rows.length)(hc:off+m<=c)(hr:rows.take off++news++rows.drop (off+m)=rws)
 (hk:K (.v (.int .i64 (m:Int))) (I.set k (id,.jA e sz rws c))):DS P n ops H0 ⟨dst,.call {callee:=.builtin .copy,args:= #[x,y],argTypes:= #[t,t']},ty,ps,af,none⟩ l I K:=by
 subst hr
 exactλay=>Does.QN U U ht (aG hx) (ay.at_ h2) hd0 (by rw[aG hy];exact hsrc.to ay) hm hnl hle hc ⟨_,(ay.jF _ h2).1,(ay.jF _ h2).2,hk⟩
theorem D.ovl{f:Nat}{fn:Func}{cc:Operand}{at_:Array TypeId}{Tf Tg lQ QO:Nat}(k k2:Nat)(hf:P.funcs[f]? =some fn)(ht:j6 P t=some (e,sz,b))(hc:aT l cc=some (.gN f []))(hx:aT l x=some (.own id Tf lQ sz))(h1:I[k]? =some (id,.row e sz rows))(hy:aT l y=some (.own jQ Tg QO sz))(h2:I[k2]? =some (jQ,.jA e sz Ti c))
 (hne:id≠jQ) (hl1:0<lQ) (hl2:0<QO) (hk:K (.v (.bool false)) I) (he:Extern.find fn=some (Extern.SlicesOverlaps.overlaps #[t,t] #[tr]))
 (hname:(fn.name== "runtime.NumGoroutine")=false:=by kernel_rfl) (hb:fn.body.isNone=true:=by rfl) (hnx:Extern.findNext fn=none:=by kernel_rfl):DS P n ops H0 ⟨dst,.call {callee:=.value cc,args:= #[x,y],argTypes:=at_},ty,ps,af,none⟩ l I K:=
 λay=>Does.overlaps U U (aG hc) hf hname hb hnx he ht (aG hx) (ay.at_ h1) (aG hy) (ay.at_ h2) hne hl1 hl2 ⟨I,rfl,ay,hk⟩
theorem US.retag{Q:qH->Sl->Hp->Prop}{rest:List Oper}(d:Nat)(k:Nat)(hl:look l d=some (.own id off len sz))(h2:I[k]? =some (id,.jA e sz rows c))(hlen:0<len)
 (hk:∀id',US P n ops Q H0 rest ((d,.own id' off len sz)::l) ((id',.row e sz rows)::I.eraseIdx k)):US P n ops Q H0 rest l I:=by
 intro hd E a w hi
 obtain⟨ρ,h1,h3,h4⟩:=hi.rel
 have h5:=h4 d
 have h6:fI l d=.own id off len sz:=by unfold fI;rw[hl];rfl
 rw[h6] at h5
 obtain⟨g,m0,cur,inner,q1,q2,q3,q4,q5,q6,q7,q8,q9,Ie,M9⟩:=yT h1 (hd.at_ h2) h5 hlen
 obtain⟨id',ρ',e1,e2,e3,e4,e5⟩:=h1.move (w':=w) (v:=.slice (some ⟨g,0,none⟩) rows.length c) (.row e sz rows) (hd.at_ h2) q1 rfl rfl rfl (Nat.le_refl _) (λ_ _ _=>rfl)
  (λk' hk'=>by simp[blk] at hk';subst hk';exact⟨.inl U,(Array.getElem?_eq_some_iff.1 q5).1⟩)
  (λρ' H' e'=>⟨q4,inner,⟨by rw[<-M9.1,dQ sz _ Ie],.inr ⟨g,c,cur,rfl,Nat.zero_le _,q5,q6,q7,q8,q9⟩⟩,Ie,e'.cells M9⟩)
 have oJ:=hd.kill h2
 have e6:set (set (aC H0 I) id none) id' (some (.row e sz rows))=aC H0 ((id',.row e sz rows)::I.eraseIdx k):=by rw[oJ.1];rfl
 rw[e6] at e4 e5
 have hd2:aM H0 ((id',.row e sz rows)::I.eraseIdx k):=by
  refine .cons ?_ oJ.2
  rw[<-oJ.1]
  by_cases h:id'=id
  ·subst h;simp
  ·rw[dM _ _ h];exact e2
 refine hk id' hd2 E a w ⟨hi.size,hi.defers,ρ',e4,h3.trans e5,λt=>?_⟩
 unfold fI
 simp only[look]
 by_cases ht:t=d
 ·subst ht
  rw[if_pos U]
  show dU _ _ _ (.own id' off len sz) _
  rw[q2]
  exact .own id' off len sz g rows.length c e3 q3 q7
 ·rw[if_neg ht];exact e5.rep (h4 t)
end
end
end Go.fT
end
