/- A part of the proof. -/
import Derived.Test.YtbooeongacgnbaaGreatDoorMw07
import Derived.Lib.AppendZerosOnto
import Derived.Lib.Overlaps
import Derived.Laws.Externs
set_option maxRecDepth 100000
set_option maxHeartbeats 4000000
set_option linter.unusedSectionVars false
set_option linter.unusedVariables false
set_option linter.unusedSimpArgs false
section
namespace Go.gW
open Go Go.RowKit
section
variable [Rd]
section
variable {P:Program} {n:Nat} {T:Sl} {H:Hp} {ops:Array Oper} {o:Oper} {K:AV->Hp->Prop}
theorem I6{a:Act}{w w':World}{x:Operand}{t:TypeId}{v':Value}(ho:o.op=.call {callee:=.builtin .cap,args:= #[x],argTypes:= #[t]})
 (h:(Builtin.cap_ #[t] o.type #[a.eval x]).run P w=.ok v' w'):(execOp a.eval o).run P w=.ok (.value v') w':=by
 unfold execOp
 rw[ho]
 simp only[resolve,List.map_toArray,List.map_cons,List.map_nil,Sem.run_bind,Sem.run_pure,Result.andThen_ok,invoke,builtin,h]
theorem rf{a:Act}{w w':World}{x y:Operand}{t t':TypeId}{v':Value}(ho:o.op=.call {callee:=.builtin .append,args:= #[x,y],argTypes:= #[t,t']})
 (h:(Builtin.append_ #[t,t'] o.type #[a.eval x,a.eval y]).run P w=.ok v' w'):(execOp a.eval o).run P w=.ok (.value v') w':=by
 unfold execOp
 rw[ho]
 simp only[resolve,List.map_toArray,List.map_cons,List.map_nil,Sem.run_bind,Sem.run_pure,Result.andThen_ok,invoke,builtin,h]
theorem yH{a:Act}{w w':World}{x y:Operand}{t t':TypeId}{v':Value}(ho:o.op=.call {callee:=.builtin .copy,args:= #[x,y],argTypes:= #[t,t']})
 (h:(Builtin.copy_ #[t,t'] o.type #[a.eval x,a.eval y]).run P w=.ok v' w'):(execOp a.eval o).run P w=.ok (.value v') w':=by
 unfold execOp
 rw[ho]
 simp only[resolve,List.map_toArray,List.map_cons,List.map_nil,Sem.run_bind,Sem.run_pure,Result.andThen_ok,invoke,builtin,h]
theorem Eb{ρ:fK}{w:World}{id off len e sz:Nat}{rows:List (List AV)}{x:Value}(h:dG ρ H w)(h2:H id=some (.row e sz rows))(hx:dL (bK ρ H) ρ w (.own id off len sz) x)(hl:0<len):
 ∃g cap cur inner,ρ id=some (.slice (some ⟨g,0,none⟩) rows.length cap)/\x=.slice (some ⟨g,off*sz,none⟩) len (cap-off)/\off+len<=cap/\0<sz/\w.heap[g]? =some (.cells cur e (0,0))/\rows.length<=cap/\cap<=maxLen/\cur.size=cap*sz/\cur.toList.take (rows.length*sz)=inner/\(∀cs∈rows,cs.length=sz)/\aZ (bK ρ H) ρ w rows.flatten inner:=by
 obtain⟨v0,hv0,hz,inner,how,hrl,hc⟩:=h.ob _ _ h2
 cases hx with
 |lQ _ _ hv=>omega
 |ny _ _ _ g m c o' c' hv h0 _=>omega
 |own _ _ _ _ g m cap hv DU hmax=>
  rw[hv0] at hv
  cases hv
  rcases how.2 with ⟨h6,_⟩|⟨g',cap',cur,h6,_,hg',h7,h8,h9,h10⟩
  ·cases h6
  ·cases h6
   exact⟨_,_,_,_,hv0,rfl,DU,hz,hg',h7,h8,h9,h10,hrl,hc⟩
theorem vK{ρ:fK}{w:World}{id off len e sz c:Nat}{rows:List (List AV)}{x:Value}(h:dG ρ H w)(h2:H id=some (.iP e sz rows c))(hx:dL (bK ρ H) ρ w (.own id off len sz) x)(hl:0<len):
 ∃g n cur inner,ρ id=some (.slice (some ⟨g,0,none⟩) n c)/\x=.slice (some ⟨g,off*sz,none⟩) len (c-off)/\off+len<=c/\0<sz/\w.heap[g]? =some (.cells cur e (0,0))/\rows.length<=c/\c<=maxLen/\cur.size=c*sz/\cur.toList.take (rows.length*sz)=inner/\(∀cs∈rows,cs.length=sz)/\aZ (bK ρ H) ρ w rows.flatten inner:=by
 obtain⟨v0,hv0,hz,g0,n0,inner,cur,rfl,hg,h1,h3,h4,h5,h6,hc⟩:=h.ob _ _ h2
 cases hx with
 |lQ _ _ hv=>omega
 |ny _ _ _ g m c o' c' hv h0 _=>omega
 |own _ _ _ _ g m cap hv DU hmax=>
  rw[hv0] at hv
  cases hv
  exact⟨_,_,_,_,hv0,rfl,DU,hz,hg,h1,h3,h4,h5,h6,hc⟩
theorem Does.cap{t e s b:Nat}{x:Operand}{id len:Nat}{rows:List (List AV)}(hg:o.guard=none)(ho:o.op=.call {callee:=.builtin .cap,args:= #[x],argTypes:= #[t]})(ht:lY P t=some (e,s,b))(hx:ev T x=.own id 0 len s)(h2:H id=some (.row e s rows))(hl:0<len)
 (hk:∀c,rows.length<=c->len<=c->c<=maxLen->K (.v (.int .i64 (c:Int))) (set H id (some (.iP e s rows c)))):Does P n ops o T H K:=by
 intro a w ρ h1 hd h3 h4 N Q hN
 rw[if_pos (by simp[Region.wanted,hg])]
 have h5:=iA h4 x
 rw[hx] at h5
 obtain⟨g,cap,cur,inner,q1,q2,q3,q4,q5,q6,q7,q8,q9,Ec,IM⟩:=Eb h3 h2 h5 hl
 obtain⟨hu,he,_⟩:=gy ht
 have hw:=h3.write (.iP e s rows cap) h2 q1 U U U (Nat.le_refl _) (λ_ _ _=>rfl) (λρ' H' e' _=>⟨q4,g,rows.length,inner,cur,rfl,q5,q6,q7,q8,q9,Ec,e'.cells IM⟩)
 unfold Oper.wp
 rw[I6 (v':=goInt cap) (w':=w) ho (by
  rw[q2]
  simp[Builtin.cap_,run_underlying hu])]
 exact hN _ w ρ _ _ hw.1 hw.2 (.v _) (hk cap q6 (by omega) q7)
theorem Does.I7{t e s b:Nat}{x:Operand}{lo hi:Option Operand}{id len l h c:Nat}{rows:List (List AV)}(hg:o.guard=none)(ho:o.op=.slice t x lo hi none)(ht:lY P t=some (e,s,b))(hx:ev T x=.own id 0 len s)(h2:H id=some (.iP e s rows c))(hl:0<len)
 (hb:BL T c lo hi l h) (hhi:hi≠none) (h1:l<=h) (hh:h<=c) (hk:K (.own id l (h-l) s) H):Does P n ops o T H K:=by
 refine Does.val _ hg (λa w ρ hrel hr=>?_) hk
 have h3:=hr x
 rw[hx] at h3
 obtain⟨g,m,cur,inner,q1,q2,q3,q4,q5,q6,q7,q8,q9,Ec,IM⟩:=vK hrel h2 h3 hl
 obtain⟨hu,he,_⟩:=gy ht
 have hrep:dL (bK ρ H) ρ w (.own id 0 c s) (.slice (some ⟨g,0,none⟩) c c):=by
  have:=dL.own (ok:=bK ρ H) (w:=w) id 0 c s g m c q1 (by omega) q7
  simpa using this
 obtain⟨A',m',cap',e1,e2,e3,e4⟩:=qU hrep h1 hh
 cases e1
 rw[Nat.zero_add] at e4
 refine⟨_,lS ho (λx=>run_sliceAt_slice (P:=P) (w:=w) t x _ _ _ (by rw[he];exact hu)) ?_,e4⟩
 have:=zN (A:=some ⟨g,0,none⟩) (cap:=c) hr ht hb h1 hh (Nat.le_refl _)
 rw[q2]
 simp only[Nat.zero_mul,Nat.sub_zero]
 have hu':P.underlying t=some (.slice (P.elem t)):=by rw[he];exact hu
 have hsz:(sizeOf (P.elem t)).run P w=.ok s w:=by rw[he];exact oK ht w
 cases hb with
 |all=>exact absurd U hhi
 |lo y k _ hy=>exact absurd U hhi
 |hi y k _ hy=>
  have hy':=hr y;rw[hy] at hy'
  simp only[Option.map_none,Option.map_some,aP hy']
  rw[run_slice_h (P:=P) w t _ len c hu' k h (by omega) (by omega),hsz]
  simp
 |both y z k k' _ _ hy hz=>
  have hy':=hr y;rw[hy] at hy'
  have hz':=hr z;rw[hz] at hz'
  simp only[Option.map_some,Option.map_none,aP hy',aP hz']
  rw[run_slice_lh (P:=P) w t _ len c hu' k k' l h (by omega) (by omega) (by omega),hsz]
  simp
theorem Does.L8{t tn e sz b:Nat}{x y:Operand}{id i k c:Nat}{kq kn:IntKind}{rows:List (List AV)}{zv:Value}{zs:List AV}(hg:o.guard=none)(ho:o.op=.call {callee:=.builtin .append,args:= #[x,y],argTypes:= #[t,tn]})(ht:kC P t e sz b)(htn:P.underlying tn=some (.int kn))
 (hx:ev T x=.own id 0 i sz) (h2:H id=some (.iP e sz rows c)) (hy:ev T y=.v (.int kq (k:Int))) (hi:i<=rows.length) (h0:0<rows.length) (hgr:c<i+k) (hb:(i+k)*b<=140737488355328) (hz0:(P.info? e).map (·.zero)=some (some zv)) (hzs:zv.cells.toList.map AV.v=zs)
 (hk:∀id',H id'=none->K (.own id' 0 (i+k) sz) (set H id' (some (.row e sz (rows.take i++List.replicate k zs))))):Does P n ops o T H K:=by
 refine Does.zJ hg λa w ρ hrel hr=>?_
 have h3:=hr x
 rw[hx] at h3
 have hyv:=aP (by have:=hr y;rw[hy] at this;exact this)
 obtain⟨v0,hv0,hz,g0,n0,inner,cur,rfl,hgc,q1,q3,q4,q5,q6,hc⟩:=hrel.ob _ _ h2
 obtain⟨hu,he,inf,W9,hsi,hbi⟩:=gy ht.sl
 have ZC:inf.zero=some zv:=by rw[W9] at hz0;simpa using hz0
 obtain⟨z2,hz2,Ua,hz1⟩:=ht.zero
 rw[hz0] at hz2;cases hz2
 have hxs:∃len',a.eval x=.slice (some ⟨g0,0,none⟩) i c/\len'=i:=by
  generalize nD:a.eval x=xx at h3
  cases h3 with
  |lQ _ _ hv=>rw[hv0] at hv;cases hv
  |ny _ _ _ g m c o' c' hv h0 _=>exact absurd U h0
  |own _ _ _ _ g m cap hv DU hmax=>rw[hv0] at hv;cases hv;exact⟨i,by simp,rfl⟩
 obtain⟨_,nD,_⟩:=hxs
 have hil:inner.length=rows.length*sz:=by rw[<-hc.1,dB sz _ q6]
 have hik:0<k:=by omega
 have hkb:k*b<=(i+k)*b:=Nat.mul_le_mul_right _ (by omega)
 have hb1:i+k<=(i+k)*b:=Nat.le_mul_of_pos_right _ ht.b
 have hold:(Builtin.firstCells inf.size i (.slice (some ⟨g0,0,none⟩) i c)).run P w.drew=.ok (inner.take (i*sz)).toArray w.drew:=by
  rw[hsi]
  refine run_firstCells_some (P:=P) w.drew sz i ⟨g0,0,none⟩ i c (inner.take (i*sz)) ?_ ?_
  ·rw[List.length_take,hil];exact Nat.min_eq_left (Nat.mul_le_mul_right _ hi)
  ·intro j u hj
   have hj2:cur[j]? =some u:=by
    rw[List.getElem?_take] at hj
    split at hj
    ·rw[<-q5,List.getElem?_take] at hj
     split at hj
     ·simpa using hj
     ·cases hj
    ·cases hj
   rw[add_plain,Nat.zero_add]
   show World.cell? w.drew _=_
   have:w.drew.heap=w.heap:=rfl
   simp[World.cell?,this,hgc,hj2]
 have hfit:Builtin.nextslicecap (i+k) c*inf.bytes<=281474976710656:=by
  rw[hbi]
  have h7:Builtin.nextslicecap (i+k) c<=2*(i+k):=nextslicecap_le (by omega)
  have:=Nat.mul_le_mul_right b h7
  rw[Nat.mul_assoc] at this
  omega
 have hrun:=Lib.run_append_grow_zeros (P:=P) w t tn o.type e inf zv kq kn hu htn W9 ZC (some ⟨g0,0,none⟩) i c (inner.take (i*sz)) hold k hik (by rw[hsi];exact ht.sz) hgr (by omega) (by rw[hbi];omega) hfit
 have hzl:∀cs∈List.replicate k zs,cs.length=sz:=λcs hcs=>by rw[List.eq_of_mem_replicate hcs,<-hzs];simpa using Ua
 have hge:=grownCap_ge w (i+k) c e
 have hle:=grownCap_le_maxLen w (i+k) c e (by simp only[maxLen];omega)
 have hzc:(Builtin.zeroCells zv.cells k).toList=(List.replicate k zv.cells.toList).flatten:=zW _ _ (by rw[Ua];exact ht.sz)
 have Ub:∀m,(Builtin.zeroCells zv.cells m).size=m*sz:=λm=>by unfold Builtin.zeroCells;simp[Ua]
 have Uc:(inner.take (i*sz)).length=i*sz:=by rw[List.length_take,hil];exact Nat.min_eq_left (Nat.mul_le_mul_right _ hi)
 have hlen:(rows.take i++List.replicate k zs).length=i+k:=by simp;omega
 refine⟨_,.slice (some ⟨w.heap.size,0,none⟩) (i+k) (grownCap w (i+k) c e),_,.row e sz (rows.take i++List.replicate k zs),rf ho (by rw[nD,hyv];exact hrun),((Below.refl _ w).drew).alloc (Nat.le_refl _) _,?_,λρ' H' e'=>?_,λid' hid=>⟨.own id' 0 (i+k) sz,λok' ρ' hρ=>?_,hk id' hid⟩⟩
 ·intro k' hk'
  simp[blk] at hk'
  subst hk'
  refine⟨Nat.le_refl _,?_⟩
  rw[size_alloc]
  exact Nat.lt_succ_self _
 ·refine⟨ht.sz,inner.take (i*sz)++(Builtin.zeroCells zv.cells k).toList,⟨?_,.inr ⟨w.heap.size,grownCap w (i+k) c e,_,by rw[hlen],Nat.zero_le _,heap_alloc_new w.drew _,by rw[hlen];exact hge,hle,?_,?_⟩⟩,?_,?_⟩
  ·rw[hlen,List.length_append,Uc,Array.length_toList,Ub,Nat.add_mul]
  ·simp only[Array.size_append,List.size_toArray,Uc,Ub]
   rw[<-Nat.add_mul,<-Nat.add_mul]
   congr 1;omega
  ·rw[hlen]
   simp only[Array.toList_append]
   rw[List.take_left']
   rw[List.length_append,Uc,Array.length_toList,Ub,Nat.add_mul]
  ·intro cs hcs
   rcases List.mem_append.1 hcs with h|h
   ·exact q6 cs (List.mem_of_mem_take h)
   ·exact hzl cs h
  ·rw[List.flatten_append,fU sz _ _ q6]
   refine gP ?_ ?_
   ·have:=fT (e'.cells hc) 0 (i*sz)
    simpa using this
   ·rw[hzc]
    have e1:(List.replicate k zs).flatten=((List.replicate k zv.cells.toList).flatten).map AV.v:=by rw[List.map_flatten,List.map_replicate,hzs]
    rw[e1]
    exact kz _ (by
     rw[List.all_eq_true]
     intro y hy
     obtain⟨l',hl',hy'⟩:=List.mem_flatten.1 hy
     rw[List.eq_of_mem_replicate hl'] at hy'
     exact List.all_eq_true.1 hz1 y hy')
 ·have:=dL.own (ok:=ok') (ρ:=ρ') (w:=w.drew.alloc (.cells ((inner.take (i*sz)).toArray++Builtin.zeroCells zv.cells k++Builtin.zeroCells zv.cells (grownCap w (i+k) c e-(i+k))) e)) id' 0 (i+k) sz w.heap.size (i+k) (grownCap w (i+k) c e) hρ (by omega) hle
  simpa using this
inductive L9 (H:Hp) (sz:Nat):AV->Nat->List (List AV)->Prop
 |of (u:AV) (rows:List (List AV)) (m:Nat) (h:Src H sz u rows) (hm:m<=rows.length):L9 H sz u rows.length (rows.take m)
 |iP (id off len e c:Nat) (iB:List (List AV)) (m:Nat) (h:H id=some (.iP e sz iB c)) (hm:m<=len) (hle:off+m<=iB.length):L9 H sz (.own id off len sz) len ((iB.drop off).take m)
theorem Gq{sz ls:Nat}(hz:0<sz){u:AV}{news:List (List AV)}{ρ:fK}{w:World}{x:Value}(hr:dG ρ H w)(h:L9 H sz u ls news)(hx:dL (bK ρ H) ρ w u x):
 ∃nv,aZ (bK ρ H) ρ w news.flatten nv/\nv.length=news.length*sz/\(∀cs∈news,cs.length=sz)/\((∃c,x=.slice none 0 c/\ls=0/\news=[])\/∃ad c,x=.slice (some ad) ls c/\∀j y,nv[j]? =some y->w.cell? (ad.add j)=some y):=by
 cases h with
 |of _ rows m hs hm=>
  obtain⟨nv,h1,h2,h3⟩:=KW hz hr hs hx
  have hrl:=zm hr hs
  have htl:(rows.take m).length=m:=by rw[List.length_take];omega
  refine⟨nv.take (m*sz),?_,?_,λcs hcs=>hrl cs (List.mem_of_mem_take hcs),?_⟩
  ·rw[fU sz _ _ hrl]
   have:=fT h1 0 (m*sz)
   simpa using this
  ·rw[List.length_take,h2,htl];exact Nat.min_eq_left (Nat.mul_le_mul_right _ hm)
  ·rcases h3 with ⟨rfl,rfl⟩|⟨ad,c,rfl,hc⟩
   ·exact .inl ⟨0,rfl,rfl,by simp⟩
   ·refine .inr ⟨ad,c,rfl,λj y hj=>hc j y ?_⟩
    rw[List.getElem?_take] at hj
    split at hj
    ·exact hj
    ·cases hj
 |iP id off _ e c iB m h hm hle=>
  by_cases hls:ls=0
  ·subst hls
   have hm0:m=0:=by omega
   subst hm0
   cases hx with
   |lQ _ _ hv=>exact⟨[],by simpa using dW,by simp,by simp,.inl ⟨0,rfl,rfl,by simp⟩⟩
   |own _ _ _ _ g n cap hv DU hmax=>exact⟨[],by simpa using dW,by simp,by simp,.inr ⟨_,_,rfl,λj y hj=>by simp at hj⟩⟩
   |ny _ _ _ g m c o' c' hv h0 _=>exact⟨[],by simpa using dW,by simp,by simp,.inr ⟨_,_,rfl,λj y hj=>by simp at hj⟩⟩
  ·obtain⟨g,n,cur,inner,q1,q2,q3,q4,q5,q6,q7,q8,q9,Ec,IM⟩:=vK hr h hx (by omega)
   have hil:inner.length=iB.length*sz:=by rw[<-IM.1,dB sz _ Ec]
   have hdt:∀cs∈(iB.drop off).take m,cs.length=sz:=λcs hcs=>Ec cs (List.mem_of_mem_drop (List.mem_of_mem_take hcs))
   have hlt:((iB.drop off).take m).length=m:=by simp;omega
   have hmm:off*sz+m*sz<=iB.length*sz:=by rw[<-Nat.add_mul];exact Nat.mul_le_mul_right _ hle
   refine⟨(inner.drop (off*sz)).take (m*sz),?_,?_,hdt,.inr ⟨_,_,q2,λj y hj=>?_⟩⟩
   ·rw[fU sz _ _ (λcs hcs=>Ec cs (List.mem_of_mem_drop hcs)),jP sz _ _ Ec]
    exact fT IM _ _
   ·rw[List.length_take,List.length_drop,hil,hlt];omega
   ·rw[List.getElem?_take] at hj
    split at hj
    ·rw[List.getElem?_drop,<-q9,List.getElem?_take] at hj
     split at hj
     ·rw[add_plain]
      have hj2:cur[off*sz+j]? =some y:=by simpa using hj
      simp[World.cell?,q5,hj2]
     ·cases hj
    ·cases hj
theorem vL{w:World}{e0 t t' ty e sz b g p dl dc ls:Nat}{cur:Array Value}{x:Value}{nv:List Value}{m:Nat}(ht:lY P t=some (e,sz,b))(hgc:w.heap[g]? =some (.cells cur e0 (0,0)))(hm:Nat.min ls dl=m)(hl:nv.length=m*sz)(h1:∀v∈nv,v.oneCell'=true)
 (hsrc:(∃c,x=.slice none 0 c/\ls=0)\/∃ad c,x=.slice (some ad) ls c/\∀j y,nv[j]? =some y->w.cell? (ad.add j)=some y) (hfit:p+m*sz<=cur.size):
 ∃w',(Builtin.copy_ #[t,t'] ty #[.slice (some ⟨g,p,none⟩) dl dc,x]).run P w=.ok (goInt m) w'/\Wrote w w' g (.cells (gQ cur.toList p nv).toArray e0 (0,0)):=by
 obtain⟨hu,he,i,hi,hsi,hbi⟩:=gy ht
 obtain⟨w',hst,hw⟩:=tV (P:=P) g e0 p nv 0 w cur hgc (by rw[hl];simpa using hfit) h1
 refine⟨w',?_,by simpa using hw⟩
 have hsz:(sizeOf e).run P w=.ok sz w:=by simp[sizeOf,typeInfo,hi,hsi,go_sem]
 rcases hsrc with ⟨c,rfl,rfl⟩|⟨ad,c,rfl,hc⟩
 ·have hm0:m=0:=by rw[<-hm];simp[Nat.min_def]
  subst hm0
  have hn0:nv=[]:=List.eq_nil_of_length_eq_zero (by simpa using hl)
  subst hn0
  obtain rfl:w=w':=by simpa[storeCells,go_sem] using hst
  simp[Builtin.copy_,run_underlying hu,Builtin.lenOf,Builtin.firstCells,hsz,go_sem,Nat.min_def]
 ·have hf:=run_firstCells_some (P:=P) w sz m ad ls c nv hl hc
  simp only[Builtin.firstCells,loadCells] at hf
  have hm':ls.min dl=m:=hm
  simp[Builtin.copy_,run_underlying hu,Builtin.lenOf,Builtin.firstCells,loadCells,hsz,hm',hf,hst,go_sem]
theorem Does.NK{t t' e sz b:Nat}{x y:Operand}{id off dl ls m:Nat}{rows news:List (List AV)}(hg:o.guard=none)(ho:o.op=.call {callee:=.builtin .copy,args:= #[x,y],argTypes:= #[t,t']})(ht:lY P t=some (e,sz,b))
 (hx:ev T x=.own id off dl sz) (h2:H id=some (.row e sz rows)) (hd0:0<dl) (hsrc:L9 H sz (ev T y) ls news) (hm:Nat.min ls dl=m) (hnl:news.length=m) (hle:off+m<=rows.length)
 (hk:K (.v (.int .i64 (m:Int))) (set H id (some (.row e sz (rows.take off++news++rows.drop (off+m)))))):Does P n ops o T H K:=by
 intro a w ρ h1 hd h3 h4 N Q hN
 rw[if_pos (by simp[Region.wanted,hg])]
 have hr:=iA h4
 have h5:=hr x
 rw[hx] at h5
 obtain⟨g,cap,cur,inner,q1,q2,q3,q4,q5,q6,q7,q8,q9,Ec,IM⟩:=Eb h3 h2 h5 hd0
 obtain⟨nv,r1,r2,r3,r4⟩:=Gq q4 h3 hsrc (hr y)
 have hil:inner.length=rows.length*sz:=by rw[<-IM.1,dB sz _ Ec]
 have hfit:off*sz+m*sz<=cur.size:=by rw[q8,<-Nat.add_mul];exact Nat.mul_le_mul_right _ (by omega)
 have hone:∀v∈nv,v.oneCell'=true:=λv hv=>by
  obtain⟨j,hj⟩:=List.getElem?_of_mem hv
  have hlt:j<news.flatten.length:=by rw[r1.1];exact(List.getElem?_eq_some_iff.1 hj).1
  exact(r1.2 j _ v (List.getElem?_eq_getElem hlt) hj).2
 obtain⟨w',hrun,hw⟩:=vL (P:=P) (t':=t') (ty:=o.type) (dl:=dl) (dc:=cap-off) ht q5 hm (by rw[r2,hnl]) hone (r4.imp (λ⟨c,a1,a2,_⟩=>⟨c,a1,a2⟩) (λh=>h)) hfit
 unfold Oper.wp
 rw[yH ho (by rw[q2];exact hrun)]
 have hsp:(rows.take off++news++rows.drop (off+m))=rows.take off++news++rows.drop (off+news.length):=by rw[hnl]
 have:=h3.write (.row e sz (rows.take off++news++rows.drop (off+m))) h2 q1 hw.os hw.tape hw.output (by rw[hw.size];exact Nat.le_refl _) (λk _ hk=>hw.block k (λe=>hk (by rw[e];rfl)))
  (λρ' H' e' _=>by rw[hsp];exact D7 q4 Ec r3 (by omega) U q6 q7 q8 q9 hil IM r1 hw.at_ e')
 exact hN _ w' ρ _ _ this.1 this.2 (.v _) hk
theorem Does.Ma{t t' e sz b:Nat}{x y:Operand}{id off dl ls m c:Nat}{rows news:List (List AV)}(hg:o.guard=none)(ho:o.op=.call {callee:=.builtin .copy,args:= #[x,y],argTypes:= #[t,t']})(ht:lY P t=some (e,sz,b))
 (hx:ev T x=.own id off dl sz) (h2:H id=some (.iP e sz rows c)) (hd0:0<dl) (hsrc:L9 H sz (ev T y) ls news) (hm:Nat.min ls dl=m) (hnl:news.length=m) (hle:off<=rows.length) (hc:off+m<=c)
 (hk:K (.v (.int .i64 (m:Int))) (set H id (some (.iP e sz (rows.take off++news++rows.drop (off+m)) c)))):Does P n ops o T H K:=by
 intro a w ρ h1 hd h3 h4 N Q hN
 rw[if_pos (by simp[Region.wanted,hg])]
 have hr:=iA h4
 have h5:=hr x
 rw[hx] at h5
 obtain⟨g,n0,cur,inner,q1,q2,q3,q4,q5,q6,q7,q8,q9,Ec,IM⟩:=vK h3 h2 h5 hd0
 obtain⟨nv,r1,r2,r3,r4⟩:=Gq q4 h3 hsrc (hr y)
 have hil:inner.length=rows.length*sz:=by rw[<-IM.1,dB sz _ Ec]
 have hfit:off*sz+m*sz<=cur.size:=by rw[q8,<-Nat.add_mul];exact Nat.mul_le_mul_right _ (by omega)
 have hone:∀v∈nv,v.oneCell'=true:=λv hv=>by
  obtain⟨j,hj⟩:=List.getElem?_of_mem hv
  have hlt:j<news.flatten.length:=by rw[r1.1];exact(List.getElem?_eq_some_iff.1 hj).1
  exact(r1.2 j _ v (List.getElem?_eq_getElem hlt) hj).2
 obtain⟨w',hrun,hw⟩:=vL (P:=P) (t':=t') (ty:=o.type) (dl:=dl) (dc:=c-off) ht q5 hm (by rw[r2,hnl]) hone (r4.imp (λ⟨c,a1,a2,_⟩=>⟨c,a1,a2⟩) (λh=>h)) hfit
 unfold Oper.wp
 rw[yH ho (by rw[q2];exact hrun)]
 have Qb:nv.length=m*sz:=by rw[r2,hnl]
 have hlen:(rows.take off++news++rows.drop (off+m)).length=max rows.length (off+m):=by simp[hnl];omega
 have:=h3.write (.iP e sz (rows.take off++news++rows.drop (off+m)) c) h2 q1 hw.os hw.tape hw.output (by rw[hw.size];exact Nat.le_refl _) (λk _ hk=>hw.block k (λe=>hk (by rw[e];rfl)))
  (λρ' H' e' _=>by
    refine⟨q4,g,n0,inner.take (off*sz)++nv++inner.drop ((off+m)*sz),_,rfl,hw.at_,by rw[hlen];omega,q7,by simp[fZ,q8],?_,λcs hcs=>?_,?_⟩
    ·show(gQ cur.toList _ nv).take _=_
     rw[hlen,yG _ _ _ (by rw[Qb];simpa using hfit),Qb,<-q9]
     have hoff:off*sz<=rows.length*sz:=Nat.mul_le_mul_right _ hle
     have hcl:cur.toList.length=c*sz:=by simpa using q8
     rw[List.take_take,Nat.min_eq_left hoff]
     rcases Nat.le_total rows.length (off+m) with hcase|hcase
     ·rw[Nat.max_eq_right hcase]
      have h6:rows.length*sz<=(off+m)*sz:=Nat.mul_le_mul_right _ hcase
      rw[List.drop_of_length_le (l:=List.take (rows.length*sz) cur.toList) (by rw[List.length_take];omega),List.append_nil,List.take_left']
      rw[List.length_append,List.length_take,hcl,Qb,Nat.add_mul]
      have:off*sz<=c*sz:=Nat.mul_le_mul_right _ (by omega)
      omega
     ·rw[Nat.max_eq_left hcase]
      have h6:(off+m)*sz<=rows.length*sz:=Nat.mul_le_mul_right _ hcase
      have h7:rows.length*sz<=c*sz:=Nat.mul_le_mul_right _ q6
      have h8:(cur.toList.take (off*sz)++nv).length=(off+m)*sz:=by
       rw[List.length_append,List.length_take,hcl,Qb,Nat.add_mul]
       have:off*sz<=c*sz:=Nat.mul_le_mul_right _ (by omega)
       omega
      rw[List.take_append,h8,List.take_of_length_le (by omega),Nat.add_mul]
      congr 1
      rw[List.drop_take]
    ·rcases List.mem_append.1 hcs with hcs|hcs
     ·rcases List.mem_append.1 hcs with hcs|hcs
      ·exact Ec cs (List.mem_of_mem_take hcs)
      ·exact r3 cs hcs
     ·exact Ec cs (List.mem_of_mem_drop hcs)
    ·rw[List.flatten_append,List.flatten_append,fU sz _ _ Ec,jP sz _ _ Ec]
     refine e'.cells (gP (gP ?_ r1) ?_)
     ·have:=fT IM 0 (off*sz)
      simpa using this
     ·have:=fT IM ((off+m)*sz) (inner.length)
      rw[List.take_of_length_le (by rw[List.length_drop,IM.1];omega),List.take_of_length_le (by rw[List.length_drop];omega)] at this
      exact this)
 exact hN _ w' ρ _ _ this.1 this.2 (.v _) hk
theorem Does.overlaps{t tr e sz b:Nat}{f:FuncId}{fn:Func}{cc x y:Operand}{at_:Array TypeId}{Ya iG NL NM gK Mc c:Nat}{Xa Gr:List (List AV)}(hg:o.guard=none)(ho:o.op=.call {callee:=.value cc,args:= #[x,y],argTypes:=at_})(hc:ev T cc=.lW f [])
 (hf:P.funcs[f]? =some fn) (hname:(fn.name== "runtime.NumGoroutine")=false) (hb:fn.body.isNone=true) (hn:Extern.findNext fn=none) (he:Extern.find fn=some (Extern.SlicesOverlaps.overlaps #[t,t] #[tr])) (ht:lY P t=some (e,sz,b))
 (hx:ev T x=.own Ya NL gK sz) (h1:H Ya=some (.row e sz Xa)) (hy:ev T y=.own iG NM Mc sz) (h2:H iG=some (.iP e sz Gr c)) (hne:Ya≠iG) (hl1:0<gK) (hl2:0<Mc) (hk:K (.v (.bool false)) H):Does P n ops o T H K:=by
 refine Does.val _ hg (λa w ρ h hr=>?_) hk
 have h5:=hr cc;rw[hc] at h5
 have h6:=hr x;rw[hx] at h6
 have h7:=hr y;rw[hy] at h7
 obtain⟨vs,hv,hl,hvs⟩:=zl h5
 have NI:vs=[]:=List.eq_nil_of_length_eq_zero (by simpa using hl.symm)
 subst NI
 obtain⟨g1,Yz,WO,YA,a1,a2,a3,a4,a5,a6,a7,a8,a9,a10,a11⟩:=Eb h h1 h6 hl1
 obtain⟨g2,m2,YB,YC,b1,b2,b3,b4,b5,b6,b7,b8,b9,b10,b11⟩:=vK h h2 h7 hl2
 have YD:g1≠g2:=λhgg=>hne (h.apart Ya iG _ _ _ _ g1 h1 h2 a1 b1 U (by rw[hgg];rfl))
 obtain⟨hu,he2,_⟩:=gy ht
 refine⟨_,?_,.v _⟩
 have h8:=run_callFunc_extern (P:=P) hf hname hb hn he #[a.eval x,a.eval y] w
 rw[a2,b2,Lib.run_overlaps_apart w t tr e hu sz (λw=>oK ht w) ⟨g1,NL*sz,none⟩ ⟨g2,NM*sz,none⟩ gK (Yz-NL) Mc (c-NM) YD e e WO.size YB.size (by simp[World.shape?,a5]) (by simp[World.shape?,b5]) (by rw[b8];exact Nat.ne_of_gt (Nat.mul_pos (by omega) b4)) (by simp[World.frozen?,a5]) (by simp[World.frozen?,a5])] at h8
 unfold execOp
 rw[ho]
 generalize a.eval=ev' at hv a2 b2⊢
 simp only[resolve,Deferred.ofValue,hv,invoke,Sem.run_bind,Sem.run_pure,Result.andThen_ok,List.map_toArray,List.map_cons,List.map_nil,a2,b2]
 simpa using h8
end
section
variable {P:Program} {n:Nat} {ops:Array Oper} {Q:oo->Sl->Hp->Prop} {H0:Hp} {l:List (Nat×AV)} {M aL:List (Nat×Ob)} {rest:List Oper} {c1 c2:Code}
variable {dst:Option Nat} {ty:TypeId} {ps:String} {af:Array Edge} {op:Op} {o:Oper} {x y z v:Operand} {u r:AV} {t t2 t' tn tr e sz b:Nat} {id iG k k2 off dn fn_ g len c m:Nat} {ob:Ob} {rows Gr rws news:List (List AV)} {lo hi:Option Operand}
variable {K:AV->List (Nat×Ob)->Prop} {ki kj kn kq:IntKind}
theorem D.cap(k:Nat)(ht:lY P t=some (e,sz,b))(hx:bA l x=some (.own id 0 len sz))(h2:M[k]? =some (id,.row e sz rows))(hl:0<len)
 (hk:∀c,rows.length<=c->len<=c->c<=maxLen->K (.v (.int .i64 (c:Int))) (M.set k (id,.iP e sz rows c))):DS P n ops H0 ⟨dst,.call {callee:=.builtin .cap,args:= #[x],argTypes:= #[t]},ty,ps,af,none⟩ l M K:=
 λaD=>Does.cap U U ht (aJ hx) (aD.at_ h2) hl λc h1 h3 h4=>⟨_,(aD.kg _ h2).1,(aD.kg _ h2).2,hk c h1 h3 h4⟩
theorem D.ZE{a a':Nat}(k:Nat)(ht:lY P t=some (e,sz,b))(hx:bA l x=some (.own id 0 len sz))(h2:M[k]? =some (id,.iP e sz rows c))(hl:0<len)(hb:kV l c lo hi a a')(hhi:hi≠none)(h1:a<=a')(hh:a'<=c)(hk:K (.own id a (a'-a) sz) M):DS P n ops H0 ⟨dst,.slice t x lo hi none,ty,ps,af,none⟩ l M K:=
 λaD=>Does.I7 U U ht (aJ hx) (aD.at_ h2) hl hb.to hhi h1 hh ⟨M,rfl,aD,hk⟩
theorem D.ZF{i m:Nat}{zv:Value}{zs:List AV}(k:Nat)(ht:kC P t e sz b)(htn:P.underlying tn=some (.int kn))(hx:bA l x=some (.own id 0 i sz))(h2:M[k]? =some (id,.iP e sz rows c))(hy:bA l y=some (.v (.int kq (m:Int))))(hi:i<=rows.length)(h0:0<rows.length)(hgr:c<i+m)(hb:(i+m)*b<=140737488355328)
 (hz0:(P.info? e).map (·.zero)=some (some zv)) (hzs:zv.cells.toList.map AV.v=zs) (hr:rows.take i++List.replicate m zs=rws) (hk:∀id',id'≠id->K (.own id' 0 (i+m) sz) ((id',.row e sz rws)::M)):DS P n ops H0 ⟨dst,.call {callee:=.builtin .append,args:= #[x,y],argTypes:= #[t,tn]},ty,ps,af,none⟩ l M K:=by
 subst hr
 exactλaD=>Does.L8 U U ht htn (aJ hx) (aD.at_ h2) (aJ hy) hi h0 hgr hb hz0 hzs λid' hid=>⟨(id',.row e sz (rows.take i++List.replicate m zs))::M,rfl,.cons hid aD,hk id' (λhe=>by rw[he,aD.at_ h2] at hid;cases hid)⟩
inductive Cq (M:List (Nat×Ob)) (sz:Nat):AV->Nat->List (List AV)->Prop
 |of {u:AV} {rows news:List (List AV)} {m ls:Nat} (h:xR M sz u rows) (hm:m<=rows.length) (hls:rows.length=ls) (hr:rows.take m=news):Cq M sz u ls news
 |iP {id off len e c k:Nat} {iB news:List (List AV)} {m:Nat} (h:M[k]? =some (id,.iP e sz iB c)) (hm:m<=len) (hle:off+m<=iB.length) (hr:(iB.drop off).take m=news):Cq M sz (.own id off len sz) len news
theorem Cq.to(hd:aK H0 M){u:AV}{ls:Nat}{rs:List (List AV)}(h:Cq M sz u ls rs):L9 (aB H0 M) sz u ls rs:=by
 cases h with
 |of h hm hls hr=>subst hls hr;exact .of _ _ _ (h.to hd) hm
 |iP h hm hle hr=>subst hr;exact .iP _ _ _ _ _ _ _ (hd.at_ h) hm hle
theorem D.Yb{dl ls:Nat}(k:Nat)(ht:lY P t=some (e,sz,b))(hx:bA l x=some (.own id off dl sz))(h2:M[k]? =some (id,.row e sz rows))(hy:bA l y=some u)(hd0:0<dl)(hsrc:Cq M sz u ls news)(hm:Nat.min ls dl=m)(hnl:news.length=m)(hle:off+m<=rows.length)(hr:rows.take off++news++rows.drop (off+m)=rws)
 (hk:K (.v (.int .i64 (m:Int))) (M.set k (id,.row e sz rws))):DS P n ops H0 ⟨dst,.call {callee:=.builtin .copy,args:= #[x,y],argTypes:= #[t,t']},ty,ps,af,none⟩ l M K:=by
 subst hr
 exactλaD=>Does.NK U U ht (aJ hx) (aD.at_ h2) hd0 (by rw[aJ hy];exact hsrc.to aD) hm hnl hle ⟨_,(aD.kg _ h2).1,(aD.kg _ h2).2,hk⟩
theorem D.Yc{dl ls:Nat}(k:Nat)(ht:lY P t=some (e,sz,b))(hx:bA l x=some (.own id off dl sz))(h2:M[k]? =some (id,.iP e sz rows c))(hy:bA l y=some u)(hd0:0<dl)(hsrc:Cq M sz u ls news)(hm:Nat.min ls dl=m)(hnl:news.length=m)(hle:off<=rows.length)(hc:off+m<=c)(hr:rows.take off++news++rows.drop (off+m)=rws)
 (hk:K (.v (.int .i64 (m:Int))) (M.set k (id,.iP e sz rws c))):DS P n ops H0 ⟨dst,.call {callee:=.builtin .copy,args:= #[x,y],argTypes:= #[t,t']},ty,ps,af,none⟩ l M K:=by
 subst hr
 exactλaD=>Does.Ma U U ht (aJ hx) (aD.at_ h2) hd0 (by rw[aJ hy];exact hsrc.to aD) hm hnl hle hc ⟨_,(aD.kg _ h2).1,(aD.kg _ h2).2,hk⟩
theorem D.ZG{f:Nat}{fn:Func}{cc:Operand}{at_:Array TypeId}{NL NM gK Mc:Nat}(k k2:Nat)(hf:P.funcs[f]? =some fn)(ht:lY P t=some (e,sz,b))(hc:bA l cc=some (.lW f []))(hx:bA l x=some (.own id NL gK sz))(h1:M[k]? =some (id,.row e sz rows))(hy:bA l y=some (.own iG NM Mc sz))(h2:M[k2]? =some (iG,.iP e sz Gr c))
 (hne:id≠iG) (hl1:0<gK) (hl2:0<Mc) (hk:K (.v (.bool false)) M) (he:Extern.find fn=some (Extern.SlicesOverlaps.overlaps #[t,t] #[tr]))
 (hname:(fn.name== "runtime.NumGoroutine")=false:=by kernel_rfl) (hb:fn.body.isNone=true:=by rfl) (hnx:Extern.findNext fn=none:=by kernel_rfl):DS P n ops H0 ⟨dst,.call {callee:=.value cc,args:= #[x,y],argTypes:=at_},ty,ps,af,none⟩ l M K:=
 λaD=>Does.overlaps U U (aJ hc) hf hname hb hnx he ht (aJ hx) (aD.at_ h1) (aJ hy) (aD.at_ h2) hne hl1 hl2 ⟨M,rfl,aD,hk⟩
theorem US.retag{Q:oo->Sl->Hp->Prop}{rest:List Oper}(d:Nat)(k:Nat)(hl:look l d=some (.own id off len sz))(h2:M[k]? =some (id,.iP e sz rows c))(hlen:0<len)
 (hk:∀id',US P n ops Q H0 rest ((d,.own id' off len sz)::l) ((id',.row e sz rows)::M.eraseIdx k)):US P n ops Q H0 rest l M:=by
 intro hd E a w hi
 obtain⟨ρ,h1,h3,h4⟩:=hi.rel
 have h5:=h4 d
 have h6:gz l d=.own id off len sz:=by unfold gz;rw[hl];rfl
 rw[h6] at h5
 obtain⟨g,m0,cur,inner,q1,q2,q3,q4,q5,q6,q7,q8,q9,Ec,IM⟩:=vK h1 (hd.at_ h2) h5 hlen
 obtain⟨id',ρ',e1,e2,e3,e4,e5⟩:=h1.move (w':=w) (v:=.slice (some ⟨g,0,none⟩) rows.length c) (.row e sz rows) (hd.at_ h2) q1 rfl rfl rfl (Nat.le_refl _) (λ_ _ _=>rfl)
  (λk' hk'=>by simp[blk] at hk';subst hk';exact⟨.inl U,(Array.getElem?_eq_some_iff.1 q5).1⟩)
  (λρ' H' e'=>⟨q4,inner,⟨by rw[<-IM.1,dB sz _ Ec],.inr ⟨g,c,cur,rfl,Nat.zero_le _,q5,q6,q7,q8,q9⟩⟩,Ec,e'.cells IM⟩)
 have mD:=hd.kill h2
 have e6:set (set (aB H0 M) id none) id' (some (.row e sz rows))=aB H0 ((id',.row e sz rows)::M.eraseIdx k):=by rw[mD.1];rfl
 rw[e6] at e4 e5
 have hd2:aK H0 ((id',.row e sz rows)::M.eraseIdx k):=by
  refine .cons ?_ mD.2
  rw[<-mD.1]
  by_cases h:id'=id
  ·subst h;simp
  ·rw[dV _ _ h];exact e2
 refine hk id' hd2 E a w ⟨hi.size,hi.defers,ρ',e4,h3.trans e5,λt=>?_⟩
 unfold gz
 simp only[look]
 by_cases ht:t=d
 ·subst ht
  rw[if_pos U]
  show dL _ _ _ (.own id' off len sz) _
  rw[q2]
  exact .own id' off len sz g rows.length c e3 q3 q7
 ·rw[if_neg ht];exact e5.rep (h4 t)
end
end
section
variable [Rd]
def nH:Hp:=λ_=>none
def nN:AV->Bool
 | .v _=>true
 |_=>false
def r9:Ob->Bool
 | .box _ l=>l.all nN
 | .row _ _ rows=>rows.flatten.all nN
 | .iter _ _=>true
 | .iP _ _ _ _=>false
 | .raw _ _=>true
 | .mp _=>false
 | .xE _ _ _=>false
def Ed:AV->Bool
 | .v _=>true
 | .agg l=>l.all nN
 | .dH l=>l.all λu=>match u with
   | .v _=>true
   | .agg l=>l.all nN
   |_=>false
 |_=>false
section
variable {ok ok':Nat->Prop} {ρ ρ':fK} {w w':World} {u:AV} {x:Value}
theorem Cr(hu:nN u=true)(h:dL ok ρ w u x):dL ok' ρ' w' u x:=by
 cases u with
 |v y=>rw[aP h];exact .v y
 |_=>simp[nN] at hu
theorem tJ{l:List AV}(hl:l.all nN=true)(h:dL ok ρ w (.agg l) x):dL ok' ρ' w' (.agg l) x:=by
 cases h with
 |agg _ vs hlen hr=>exact .agg _ vs hlen λj u y h1 h2=>Cr (List.all_eq_true.1 hl u (List.mem_of_getElem? h1)) (hr j u y h1 h2)
theorem I8(hu:Ed u=true)(h:dL ok ρ w u x):dL ok' ρ' w' u x:=by
 cases u with
 |v y=>rw[aP h];exact .v y
 |agg l=>exact tJ hu h
 |dH l=>
  cases h with
  |dH _ vs hlen hr=>
   refine .dH _ vs hlen λj u y h1 h2=>?_
   have h3:=List.all_eq_true.1 hu u (List.mem_of_getElem? h1)
   have h4:=hr j u y h1 h2
   cases u with
   |v y=>rw[aP h4];exact .v _
   |agg l=>exact tJ h3 h4
   |_=>simp at h3
 |_=>simp[Ed] at hu
theorem yI{us:List AV}{xs:List Value}(hl:us.all nN=true)(h:aZ ok ρ w us xs):aZ ok' ρ' w' us xs:=
 ⟨h.1,λj u y h1 h2=>⟨Cr (List.all_eq_true.1 hl u (List.mem_of_getElem? h1)) (h.2 j u y h1 h2).1,(h.2 j u y h1 h2).2⟩⟩
theorem lM.plain{v:Value}{ob:Ob}(hp:r9 ob=true)(hok:∀g x,ob=.raw g x->ok' g)(h:lM ok ρ w v ob):lM ok' ρ' w v ob:=by
 cases ob with
 |box t l=>obtain⟨g,vals,rfl,hg,hc⟩:=h;exact⟨g,vals,rfl,hg,yI hp hc⟩
 |row e sz rows=>obtain⟨h0,inner,ho,hl,hc⟩:=h;exact⟨h0,inner,ho,hl,yI hp hc⟩
 |iter s pos=>exact h
 |iP _ _ _ _=>simp[r9] at hp
 |raw g x=>exact⟨h.1,hok g x U,h.2.2⟩
 |mp es=>simp[r9] at hp
 |xE _ _ _=>simp[r9] at hp
end
theorem F.borrow{P:Program}{f:Nat}{us lu:List AV}{r:AV}{H H1:Hp}(hs:Sub H1 H)(hp:∀id ob,H1 id=some ob->r9 ob=true)(hl:lu.length=us.length)(hu:∀(j:Nat) u u',us[j]? =some u->lu[j]? =some u'->dw H u H1 u')
 (h:F P f lu H1 (bn H1 r)) (hr:Ed r=true):F P f us H (bn H r):=by
 refine⟨h.1,λρ w vals hrel Cg=>?_⟩
 have Ud:IX (bK ρ H1) ρ w lu vals:=⟨by rw[hl];exact Cg.1,λj u x hj hx=>by
  have hlt:j<us.length:=by rw[<-hl];exact(List.getElem?_eq_some_iff.1 hj).1
  exact hu j _ u (List.getElem?_eq_getElem hlt) hj ρ w x hrel (Cg.2 j _ x (List.getElem?_eq_getElem hlt) hx)⟩
 refine(h.2 ρ w vals (hrel.drop hs) Ud).mono<|?_
 rintro e w' ⟨x,ρ',u,H',rfl,h1,h2,h3,rfl,rfl⟩
 have hown:∀k,Own ρ' H k->Own ρ H k:=by
  rintro k ⟨id,ob,v,a,b,c⟩
  obtain⟨v0,hv0,_⟩:=hrel.ob id ob a
  rw[h2.F4 id v0 hv0] at b
  cases b
  exact⟨id,ob,_,a,hv0,c⟩
 have oz:Ext ρ H w ρ' H w':=⟨h2.os,h2.tape,h2.output,h2.size,λk hk hn=>h2.block k hk (λho=>hn (DL hs ho)),λk ho=> .inl (hown k ho),h2.F4⟩
 refine⟨x,ρ',u,H,rfl,⟨?_,?_,h1.room,h1.lt⟩,oz,I8 hr h3,rfl,rfl⟩
 ·intro id ob hid
  obtain⟨v0,hv0,jd⟩:=hrel.ob id ob hid
  refine⟨v0,h2.F4 id v0 hv0,?_⟩
  cases h4:H' id with
  |some zF=>
   have:=hs id zF h4
   rw[hid] at this
   cases this
   obtain⟨v1,hv1,YE⟩:=h1.ob id ob h4
   rw[h2.F4 id v0 hv0] at hv1
   cases hv1
   exact YE.plain (hp id ob h4) (λg x e=>by
    subst e
    have hlt:g<w.heap.size:=(Array.getElem?_eq_some_iff.1 jd.2.2.1).1
    exactλho=>(oz.own g ho).elim jd.2.1 (λh1=>by omega))
  |none=>
   refine jd.ext oz λk hk=>h2.block k (hrel.lt id v0 k hv0 hk)<|?_
   rintro⟨j,obj,vj,a,b,c⟩
   have:=hrel.apart id j ob obj v0 vj k hid (hs j obj a) hv0 b hk c
   subst this
   rw[h4] at a
   cases a
 ·intro id id' ob zF v v' k a b c d e1 e2
  obtain⟨v0,hv0,_⟩:=hrel.ob id ob a
  obtain⟨v1,hv1,_⟩:=hrel.ob id' zF b
  rw[h2.F4 id v0 hv0] at c
  rw[h2.F4 id' v1 hv1] at d
  cases c
  cases d
  exact hrel.apart id id' ob zF _ _ k a b hv0 hv1 e1 e2
section
variable {P:Program} {n:Nat} {ops:Array Oper} {H0:Hp} {l:List (Nat×AV)} {M keep:List (Nat×Ob)} {us lu dD:List AV} {u r:AV} {f:Nat} {cc:Operand} {args:Array Operand} {at_:Array TypeId} {dst:Option Nat} {ty:TypeId} {ps:String} {af:Array Edge}
inductive zZ (M keep:List (Nat×Ob)):List AV->List AV->Prop
 |nil:zZ M keep [] []
 |keep {u:AV} {us lu:List AV} (h:zZ M keep us lu):zZ M keep (u::us) (u::lu)
 |own {k id off len e sz:Nat} {rows rs:List (List AV)} {us lu:List AV} (h2:M[k]? =some (id,.row e sz rows)) (hle:off+len<=rows.length) (hr:(rows.drop off).take len=rs) (h:zZ M keep us lu):zZ M keep (.own id off len sz::us) (.sl rs::lu)
 |agg {l l' us lu:List AV} (h1:zZ M keep l l') (h:zZ M keep us lu):zZ M keep (.agg l::us) (.agg l'::lu)
theorem vM{i:Nat}{ob:Ob}:∀{r:List (Nat×Ob)},aB nH r i=some ob->(i,ob)∈r
 |[],h=>by cases h
 |(j,o)::r,h=>by
  by_cases hj:i=j
  ·subst hj
   have:aB nH ((i,o)::r) i=some o:=by show set _ _ _ _=_;simp
   rw[this] at h;cases h;simp
  ·have:aB nH ((j,o)::r) i=aB nH r i:=by show set _ _ _ _=_;rw[dV _ _ hj]
   rw[this] at h
   exact List.mem_cons_of_mem _ (vM h)
def I9:Ob->Bool
 | .row _ _ _=>false
 |_=>true
theorem zZ.turns(hd:aK H0 M)(hs:Sub (aB nH keep) (aB H0 M))(hnr:(keep.all λp=>I9 p.2)=true)(h:zZ M keep us lu):lu.length=us.length/\∀(j:Nat) u u',us[j]? =some u->lu[j]? =some u'->dw (aB H0 M) u (aB nH keep) u':=by
 induction h with
 |nil=>exact⟨rfl,λj u u' h=>by simp at h⟩
 |keep h ih=>
  refine⟨by simp[ih.1],λj u u' h1 h2=>?_⟩
  cases j with
  |zero=>simp at h1 h2;subst h1 h2;exact dw.drop hs _
  |succ j=>exact ih.2 j u u' (by simpa using h1) (by simpa using h2)
 | @own k id off len e sz rows rs us lu h2 hle hr h ih=>
   have hn:aB nH keep id=none:=by
    cases h5:aB nH keep id with
    |none=>rfl
    |some ob=>
     have h6:=hs id ob h5
     rw[hd.at_ h2] at h6
     cases h6
     have:=List.all_eq_true.1 hnr _ (vM h5)
     simp[I9] at this
   refine⟨by simp[ih.1],λj u u' h3 h4=>?_⟩
   cases j with
   |zero=>
    simp at h3 h4;subst h3 h4 hr
    exact dw.own hs (hd.at_ h2) hn hle U (λi cs cs' h1 h2=>by
     rw[h1] at h2;cases h2
     exact⟨rfl,λj u u' h3 h4=>by rw[h3] at h4;cases h4;exact dw.drop hs u⟩)
   |succ j=>exact ih.2 j u u' (by simpa using h3) (by simpa using h4)
 |agg h1 h ih1 ih=>
  refine⟨by simp[ih.1],λj u u' h3 h4=>?_⟩
  cases j with
  |zero=>simp at h3 h4;subst h3 h4;exact dw.agg ih1.1 ih1.2
  |succ j=>exact ih.2 j u u' (by simpa using h3) (by simpa using h4)
theorem aK.Tk{H:Hp}:∀{r:List (Nat×Ob)},aK H r->aK nH r
 |[],_=> .nil
 |(i,ob)::r,h=>by
  cases h with
  |cons h1 h2=>exact .cons (pG U (l6 h1).2) h2.Tk
theorem NN(hd:aK H0 M)(hk:keep.Sublist M):Sub (aB nH keep) (aB H0 M):=λi ob h=>by
 obtain⟨k,hk2⟩:=List.getElem?_of_mem (hk.subset (vM h))
 exact hd.at_ hk2
theorem Z.YF(keep:List (Nat×Ob))(hkp:keep.Sublist M)(hpl:(keep.all λp=>r9 p.2)=true)(hc:bA l cc=some (.lW f dD))(ha:gD l args.toList=some us)(hb:zZ M keep (us++dD) lu)(h:aK nH keep->F P f lu (aB nH keep) (bn (aB nH keep) r))(hr:Ed r=true:=by rfl)(hnr:(keep.all λp=>I9 p.2)=true:=by rfl):
 QS P n ops H0 ⟨dst,.call {callee:=.value cc,args:=args,argTypes:=at_},ty,ps,af,none⟩ l M r:=
 QS.call U U hc ha λhd=>by
  have hs:=NN hd hkp
  obtain⟨h1,h2⟩:=hb.turns hd hs hnr
  exact F.borrow hs (λi ob hi=>List.all_eq_true.1 hpl _ (vM hi)) h1 h2 (h ((hd.sub hkp).Tk)) hr
end
inductive vN:List (Nat×Ob)->List (Nat×Ob)->List (Nat×Ob)->Prop
 |nil {M:List (Nat×Ob)}:vN M [] M
 |cons {M rq ru:List (Nat×Ob)} {p:Nat×Ob} (k:Nat) (h:M[k]? =some p) (t:vN (M.eraseIdx k) rq ru):vN M (p::rq) ru
theorem vN.split{H0:Hp}{M rq ru:List (Nat×Ob)}(h:vN M rq ru):aK H0 M->aK H0 ru/\aK (aB H0 ru) rq/\aB H0 M=aB (aB H0 ru) rq:=by
 induction h with
 |nil=>exactλhd=>⟨hd,.nil,rfl⟩
 | @cons M rq ru p k h t ih=>
   obtain⟨i,ob⟩:=p
   intro hd
   obtain⟨e1,e2⟩:=hd.kill h
   obtain⟨a,b,c⟩:=ih e2
   have h3:aB (aB H0 ru) rq i=none:=by rw[<-c,<-e1];simp
   refine⟨a,.cons h3 b,?_⟩
   have h4:=hd.at_ h
   funext j
   by_cases hj:j=i
   ·subst hj
    rw[h4]
    show some ob=set _ _ _ _
    simp
   ·show _=set _ _ _ _
    rw[dV _ _ hj,<-c,<-e1,dV _ _ hj]
section
variable {P:Program} {n:Nat} {ops:Array Oper} {H0:Hp} {l:List (Nat×AV)} {M rq ru:List (Nat×Ob)} {us dD:List AV} {f:Nat} {cc:Operand} {args:Array Operand} {at_:Array TypeId} {dst:Option Nat} {ty:TypeId} {ps:String} {af:Array Edge} {K:AV->List (Nat×Ob)->Prop} {R:AV->List (Nat×Ob)->Prop}
theorem D.co(hpk:vN M rq ru)(hc:bA l cc=some (.lW f dD))(ha:gD l args.toList=some us)(h:∀G,aK G rq->F P f (us++dD) (aB G rq) (λu H'=>∃news,aK G news/\H'=aB G news/\R u news))(hk:∀u news,R u news->K u (news++ru)):
 DS P n ops H0 ⟨dst,.call {callee:=.value cc,args:=args,argTypes:=at_},ty,ps,af,none⟩ l M K:=λaD=>by
 obtain⟨a,b,c⟩:=hpk.split aD
 refine Does.call U U (aJ hc)<|?_
 rw[iJ ha,c]
 refine(h (aB H0 ru) b).mono λu H' ⟨news,h1,h2,h3⟩=>⟨news++ru,by rw[h2,jR],aK.app a h1,hk u news h3⟩
end
theorem Ee{sz m m':Nat}{rows:List (List AV)}(h:∀cs∈rows,cs.length=sz):∀cs∈(rows.take m').drop m,cs.length=sz:=λcs hcs=>h cs (List.mem_of_mem_take (List.mem_of_mem_drop hcs))
def Xb{α:Type}(H0:Hp)(L:α->List (Nat×AV))(O:α->List (Nat×Ob))(J:α->Prop)(μ:α->Nat)(m:Nat):Sl->Hp->Prop:=λT H=>
 ∃a',J a'/\μ a'<m/\aK H0 (O a')/\Sub (aB H0 (O a')) H/\∀t,dw H (T t) (aB H0 (O a')) (gz (L a') t)
section
variable {P:Program} {n:Nat} {Q:oo->Sl->Hp->Prop} {H0:Hp} {l:List (Nat×AV)} {M:List (Nat×Ob)} {c:Code} {α:Type}
theorem S.loop(L:α->List (Nat×AV))(O:α->List (Nat×Ob))(J:α->Prop)(μ:α->Nat)(a0:α)(h0:J a0)(hl:LU l (L a0))(ho:(O a0).Sublist M)
 (round:∀a,J a->UW P n (ku (Xb H0 L O J μ (μ a)) Q) H0 c (L a) (O a)):UW P n Q H0 (.loop c) l M:=by
 refine UW.keep (L a0) (O a0) hl ho λhd=>AW.loop (λm T H=>∃a,J a/\μ a=m/\aK H0 (O a)/\Sub (aB H0 (O a)) H/\∀t,dw H (T t) (aB H0 (O a)) (gz (L a) t)) (μ a0) ⟨a0,h0,rfl,hd,λ_ _ h=>h,λt=>dw.drop (λ_ _ h=>h) _⟩<|?_
 rintro m T H ⟨a,hJ,rfl,hd',hs,ht⟩
 refine AW.turn hs ht<|(round a hJ hd').mono<|?_
 intro e T' H' hq
 cases e with
 |normal=>obtain⟨a',h1,h2,h3,h4,h5⟩:=hq;exact⟨μ a',h2,a',h1,rfl,h3,h4,h5⟩
 |exit id=>exact hq
 |goto l=>exact hq
 |ret=>exact hq
theorem S.back{L:α->List (Nat×AV)}{O:α->List (Nat×Ob)}{J:α->Prop}{μ:α->Nat}{m:Nat}(a':α)(hl:LU l (L a'))(ho:(O a').Sublist M)(hJ:J a')(hm:μ a'<m):UQ (ku (Xb H0 L O J μ m) Q) H0 .normal l M:=λhd=>by
 have hd':=hd.sub ho
 have hs:=gB hd hd' (λp hp=>ho.subset hp)
 exact⟨a',hJ,hm,hd',hs,rU hl hs⟩
def Ue(H0:Hp)(L:List (Nat×AV))(O:List (Nat×Ob))(J:Prop):Sl->Hp->Prop:=λT H=>
 J/\aK H0 O/\Sub (aB H0 O) H/\∀t,dw H (T t) (aB H0 O) (gz L t)
theorem S.cut{c2:Code}(L:List (Nat×AV))(O:List (Nat×Ob))(J:Prop)(hx:UW P n (ku (Ue H0 L O J) Q) H0 c l M)(hy:J->UW P n Q H0 c2 L O):UW P n Q H0 (.seq c c2) l M:=λhd=>by
 refine AW.seq<|(hx hd).mono<|?_
 intro e T' H' hq
 cases e with
 |normal=>obtain⟨hj,h3,h4,h5⟩:=hq;exact AW.turn h4 h5 (hy hj h3)
 |exit id=>exact hq
 |goto l=>exact hq
 |ret=>exact hq
theorem S.fin{L:List (Nat×AV)}{O:List (Nat×Ob)}{J:Prop}(hl:LU l L)(ho:O.Sublist M)(hj:J):UQ (ku (Ue H0 L O J) Q) H0 .normal l M:=λhd=>by
 have hd':=hd.sub ho
 have hs:=gB hd hd' (λp hp=>ho.subset hp)
 exact⟨hj,hd',hs,rU hl hs⟩
def NP{α:Type}(H0:Hp)(L:α->List (Nat×AV))(O:α->List (Nat×Ob))(J:α->Prop):Sl->Hp->Prop:=λT H=>∃a,Ue H0 (L a) (O a) (J a) T H
theorem S.Uf{c2:Code}(L:α->List (Nat×AV))(O:α->List (Nat×Ob))(J:α->Prop)(hx:UW P n (ku (NP H0 L O J) Q) H0 c l M)(hy:∀a,J a->UW P n Q H0 c2 (L a) (O a)):UW P n Q H0 (.seq c c2) l M:=λhd=>by
 refine AW.seq<|(hx hd).mono<|?_
 intro e T' H' hq
 cases e with
 |normal=>obtain⟨a,hj,h3,h4,h5⟩:=hq;exact AW.turn h4 h5 (hy a hj h3)
 |exit id=>exact hq
 |goto l=>exact hq
 |ret=>exact hq
theorem S.kY{L:α->List (Nat×AV)}{O:α->List (Nat×Ob)}{J:α->Prop}(a:α)(hl:LU l (L a))(ho:(O a).Sublist M)(hj:J a):UQ (ku (NP H0 L O J) Q) H0 .normal l M:=λhd=>⟨a,S.fin (Q:=Q) hl ho hj hd⟩
end
section
variable {P:Program} {n:Nat} {Q:oo->Sl->Hp->Prop} {H0:Hp} {l:List (Nat×AV)} {M:List (Nat×Ob)} {c:Code} {ops:Array Oper} {rest:List Oper} {id k e:Nat} {cells cells':List AV}
theorem dG.Ja{ρ:fK}{w:World}(aD:aK H0 M)(h2:M[k]? =some (id,.box e cells))(h1:dG ρ (aB H0 M) w)(hl:cells'.length=cells.length)
 (hc:∀(j:Nat) (u u':AV) (x:Value),cells[j]? =some u->cells'[j]? =some u'->dL (bK ρ (aB H0 M)) ρ w u x->dL (bK ρ (aB H0 M)) ρ w u' x):
 bK ρ (aB H0 M)=bK ρ (aB H0 (M.set k (id,.box e cells')))/\dG ρ (aB H0 (M.set k (id,.box e cells'))) w:=by
 have hs:=(aD.kg (.box e cells') h2).1
 have hat:=aD.at_ h2
 have hdom:∀i,(aB H0 M i).isSome=(aB H0 (M.set k (id,.box e cells')) i).isSome:=by
  intro i
  rw[<-hs]
  by_cases hj:i=id
  ·subst hj;rw[set_self,hat];rfl
  ·rw[dV _ _ hj]
 have hok:=Gn (ρ:=ρ) hdom
 refine⟨hok,λid' ob jd=>?_,λi i' o o' v v' k' q1 q2 q3 q4 q5 q6=>?_,h1.room,h1.lt⟩
 ·rw[<-hok]
  rw[<-hs] at jd
  by_cases hj:id'=id
  ·subst hj
   rw[set_self] at jd
   cases jd
   obtain⟨v,q1,g,vals,q2,q3,q4⟩:=h1.ob _ _ hat
   refine⟨v,q1,g,vals,q2,q3,by rw[hl];exact q4.1,λj u x hu hx=>?_⟩
   obtain⟨u0,hu0⟩:∃u0,cells[j]? =some u0:=⟨_,List.getElem?_eq_getElem (by have:=(List.getElem?_eq_some_iff.1 hu).1;omega)⟩
   have:=q4.2 j u0 x hu0 hx
   exact⟨hc j u0 u x hu0 hu this.1,this.2⟩
  ·rw[dV _ _ hj] at jd
   exact h1.ob _ _ jd
 ·have hx:∀{i:Nat} {o:Ob},aB H0 (M.set k (id,.box e cells')) i=some o->∃o',aB H0 M i=some o':=by
   intro i o h
   have h4:=hdom i
   rw[h] at h4
   cases h5:aB H0 M i with
   |none=>rw[h5] at h4;cases h4
   |some o'=>exact⟨o',rfl⟩
  obtain⟨p1,p2⟩:=hx q1
  obtain⟨p3,p4⟩:=hx q2
  exact h1.apart i i' _ _ v v' k' p2 p4 q3 q4 q5 q6
theorem Gs{E:Nu}{a:Act}{w:World}{sz:Nat}(m e2:Nat)(hz:0<sz)(aD:aK H0 M)(h2:M[k]? =some (id,.box e cells))(hm:cells[m]? =some (.v (.slice none 0 0)))(hi:Inv E n (gz l) (aB H0 M) a w):
 ∃iG,aB H0 M iG=none/\Inv E n (gz l) (aB H0 ((iG,.row e2 sz [])::M.set k (id,.box e (cells.set m (.own iG 0 0 sz))))) a w:=by
 obtain⟨ρ,h1,h2',h3⟩:=hi.rel
 obtain⟨iG,ρ',e1,e2',e3,e4,e5⟩:=h1.new (w':=w) (.slice none 0 0) (.row e2 sz []) (Below.refl _ _) (λk hk=>by cases hk) (λρ' H' e'=>⟨hz,[],⟨by simp,.inl ⟨rfl,rfl⟩⟩,by simp,dW⟩)
 have hd2:aK H0 ((iG,.row e2 sz [])::M):=.cons e2' aD
 obtain⟨hok,hr⟩:=dG.Ja (cells':=cells.set m (.own iG 0 0 sz)) hd2 (k:=k+1) (by simpa using h2) (by exact e4) (by simp) (λj u u' x hu hu' hrep=>by
  by_cases hj:j=m
  ·subst hj
   rw[hm] at hu;cases hu
   have:u'=.own iG 0 0 sz:=by
    rw[List.getElem?_set_self (List.getElem?_eq_some_iff.1 hm).1] at hu'
    exact(Option.some.inj hu').symm
   subst this
   rw[aP hrep]
   exact .lQ iG sz e3
  ·rw[List.getElem?_set_ne (λh=>hj h.symm)] at hu'
   rw[hu] at hu';cases hu';exact hrep)
 have oz:=h2'.trans e5
 refine⟨iG,e2',hi.size,hi.defers,ρ',?_,⟨oz.os,oz.tape,oz.output,oz.size,oz.block,λk' ho=>oz.own k' ?_,oz.F4⟩,λt=>?_⟩
 ·exact hr
 ·have:¬bK ρ' (aB H0 ((iG,.row e2 sz [])::M.set k (id,.box e (cells.set m (.own iG 0 0 sz))))) k':=λh=>h ho
  rw[show aB H0 ((iG,.row e2 sz [])::M.set k (id,.box e (cells.set m (.own iG 0 0 sz))))=aB H0 (((iG,.row e2 sz [])::M).set (k+1) (id,.box e (cells.set m (.own iG 0 0 sz)))) from rfl,<-hok] at this
  exact Classical.not_not.1 this
 ·have:=e5.rep (h3 t)
  rw[show aB H0 ((iG,.row e2 sz [])::M.set k (id,.box e (cells.set m (.own iG 0 0 sz))))=aB H0 (((iG,.row e2 sz [])::M).set (k+1) (id,.box e (cells.set m (.own iG 0 0 sz)))) from rfl,<-hok]
  exact this
theorem US.vO{sz:Nat}(k m e2:Nat)(hz:0<sz)(h2:M[k]? =some (id,.box e cells))(hm:cells[m]? =some (.v (.slice none 0 0)))(hk:∀iG,US P n ops Q H0 rest l ((iG,.row e2 sz [])::M.set k (id,.box e (cells.set m (.own iG 0 0 sz))))):US P n ops Q H0 rest l M:=by
 intro hd E a w hi
 obtain⟨iG,h1,h3⟩:=Gs m e2 hz hd h2 hm hi
 have hd2:aK H0 ((iG,.row e2 sz [])::M):=.cons h1 hd
 exact hk iG (hd2.kg (k:=k+1) (.box e (cells.set m (.own iG 0 0 sz))) (by simpa using h2)).2 E a w h3
end
end
end Go.gW
end
