/- A part of the proof. -/
import Derived.Test.YtonpfomjoiaacaaGreatDoorMw06
import Derived.Laws.RangeAny
import Derived.Lib.Bytealg
set_option maxRecDepth 100000
set_option maxHeartbeats 4000000
set_option linter.unusedSectionVars false
set_option linter.unusedVariables false
set_option linter.unusedSimpArgs false
section
namespace Go.iG
open Go Go.RowKit
section
variable [Rd]
theorem wF{α:Type}(l us:List α)(off:Nat)(h:off+us.length<=l.length):gz l off us=l.take off++us++l.drop (off+us.length):=by
 apply List.ext_getElem?
 intro j
 rw[qb,List.append_assoc]
 by_cases h1:j<off
 ·rw[if_neg (by omega),List.getElem?_append_left (by rw[List.length_take];omega),List.getElem?_take,if_pos h1]
 ·rw[List.getElem?_append_right (by rw[List.length_take];omega),List.length_take,Nat.min_eq_left (by omega)]
  by_cases h2:j<off+us.length
  ·rw[if_pos (by omega),List.getElem?_append_left (by omega)]
  ·rw[if_neg (by omega),List.getElem?_append_right (by omega),List.getElem?_drop]
   congr 1;omega
theorem ER{α:Type}(sz:Nat)(rows news:List (List α))(p:Nat)(h:∀cs∈rows,cs.length=sz)(hn:∀cs∈news,cs.length=sz)(hle:p+news.length<=rows.length):
 (rows.take p++news++rows.drop (p+news.length)).flatten=gz rows.flatten (p*sz) news.flatten:=by
 have e1:=eG sz rows h
 have e2:=eG sz news hn
 rw[wF _ _ _ (by rw[e1,e2,<-Nat.add_mul];exact Nat.mul_le_mul_right _ hle),List.flatten_append,List.flatten_append,iq sz _ _ h,mr sz _ _ h,e2,Nat.add_mul]
section
variable {P:Program} {n:Nat} {T:Sl} {H:Hp} {ops:Array Oper} {o:Oper} {K:AV->Hp->Prop}
theorem uy{ρ ρ':ik}{H':Hp}{w w':World}{v:Value}{e sz p:Nat}{rows news:List (List AV)}{nv:List Value}{g cap:Nat}{cur:Array Value}{inner:List Value}
 (hz:0<sz) (hl:∀cs∈rows,cs.length=sz) (hn:∀cs∈news,cs.length=sz) (hle:p+news.length<=rows.length) (hv:v=.slice (some ⟨g,0,none⟩) rows.length cap)
 (h5:rows.length<=cap) (h6:cap<=maxLen) (h7:cur.size=cap*sz) (h8:cur.toList.take (rows.length*sz)=inner) (hil:inner.length=rows.length*sz) (hc:bA (bF ρ H) ρ w rows.flatten inner) (UE:bA (bF ρ H) ρ w news.flatten nv)
 (hw:w'.heap[g]? =some (.cells (gz cur.toList (p*sz) nv).toArray e (0,0))) (e':Ext ρ H w ρ' H' w'):oU (bF ρ' H') ρ' w' v (.row e sz (rows.take p++news++rows.drop (p+news.length))):=by
 have hlen:(rows.take p++news++rows.drop (p+news.length)).length=rows.length:=by simp;omega
 have hnl:nv.length=news.length*sz:=by rw[<-UE.1,eG sz _ hn]
 refine⟨hz,gz inner (p*sz) nv,⟨by rw[iy,hlen];exact hil,.inr ⟨g,cap,_,by rw[hlen];exact hv,Nat.zero_le _,hw,by rw[hlen];exact h5,h6,by simp[iy,h7],?_⟩⟩,λcs hcs=>?_,?_⟩
 ·rw[hlen]
  show(gz cur.toList _ nv).take _=_
  rw[IB _ _ _ _ (by rw[hnl,<-Nat.add_mul];exact Nat.mul_le_mul_right _ hle),h8]
 ·rcases List.mem_append.1 hcs with hcs|hcs
  ·rcases List.mem_append.1 hcs with hcs|hcs
   ·exact hl cs (List.mem_of_mem_take hcs)
   ·exact hn cs hcs
  ·exact hl cs (List.mem_of_mem_drop hcs)
 ·rw[ER sz rows news p hl hn hle]
  exact e'.cells (lq hc UE _)
theorem Does.xS{t e sz b:Nat}{s x:Operand}{id len:Nat}{rows news:List (List AV)}(hg:o.guard=none)(ho:o.op=.call {callee:=.builtin .append,args:= #[s,x],argTypes:= #[t,t]})(ht:kg P t e sz b)
 (hs:ev T s=.own id 0 len sz) (h2:H id=some (.row e sz rows)) (hle:len+news.length<=rows.length) (hx:Src H sz (ev T x) news)
 (hk:K (.own id 0 (len+news.length) sz) (set H id (some (.row e sz (rows.take len++news++rows.drop (len+news.length)))))):Does P n ops o T H K:=by
 intro a w ρ h1 hd h3 h4 N Q hN
 rw[if_pos (by simp[Region.wanted,hg])]
 have hr:=iH h4
 have h5:=hr s
 rw[hs] at h5
 obtain⟨v0,hv0,hz,inner,how,hl,hc⟩:=h3.ob _ _ h2
 obtain⟨nv,UE,hnl,hh⟩:=JL ht.sz h3 hx (hr x)
 have hn:=Al h3 hx
 obtain⟨hu,he,i,hi,hsi,hbi⟩:=eH ht.sl
 have hil:inner.length=rows.length*sz:=how.1
 generalize hss:a.eval s=ss at h5
 cases h5 with
 |o7 _ _ _ g m c o' c' hv h0 _=>exact absurd U h0
 |nu _ _ hv=>
  rw[hv0] at hv
  cases hv
  have hr0:rows.length=0:=by
   rcases how.2 with ⟨_,h⟩|⟨g,cap,cur,h,_⟩
   ·exact h
   ·cases h
  have hrn:rows=[]:=List.eq_nil_of_length_eq_zero hr0
  have hnn:news=[]:=List.eq_nil_of_length_eq_zero (by omega)
  subst hrn hnn
  have hrun:(Builtin.append_ #[t,t] o.type #[a.eval s,a.eval x]).run P w=.ok (.slice none 0 0) w:=by
   rw[hss]
   rcases hh with ⟨kQ,_⟩|⟨ad,c,kQ,_⟩
   ·rw[kQ];exact run_append_owned_none (P:=P) (w:=w) 0 t o.type e i sz hu hi _ 0 [] ⟨by simp,.inl ⟨rfl,rfl⟩⟩
   ·rw[kQ]
    simp[Builtin.append_,run_underlying hu,sizeOf,typeInfo,hi,Builtin.lenOf,Builtin.firstCells,storeCells,loadCells,go_sem]
  unfold Oper.wp
  rw[nV ho hrun]
  have hset:set H id (some (.row e sz []))=H:=by
   funext j
   by_cases hj:j=id
   ·subst hj;rw[set_self,h2]
   ·rw[dZ _ _ hj]
  refine hN _ w ρ _ _ h3 (Ext.refl _ _ _) (.nu id sz hv0) ?_
  have:=hk
  simp only[List.take_nil,List.nil_append,List.drop_nil,List.length_nil] at this
  rw[hset] at this
  exact this
 |own _ _ _ _ g m cap hv BS hmax=>
  rw[hv0] at hv
  cases hv
  rcases how.2 with ⟨h6,_⟩|⟨g',cap',cur,h6,_,hg',h7,h8,h9,h10⟩
  ·cases h6
  ·cases h6
   have hfit:len*sz+nv.length<=cur.size:=by rw[hnl,h9,<-Nat.add_mul];exact Nat.mul_le_mul_right _ (by omega)
   have hcur:gz cur.toList (len*sz) nv=cur.toList.take (len*sz)++nv++cur.toList.drop (len*sz+nv.length):=wF _ _ _ (by simpa using hfit)
   have hrun:∃w',(Builtin.append_ #[t,t] o.type #[a.eval s,a.eval x]).run P w=.ok (.slice (some ⟨g,0,none⟩) (len+news.length) cap) w'/\w'.heap[g]? =some (.cells (gz cur.toList (len*sz) nv).toArray e (0,0))/\w'.heap.size=w.heap.size/\(∀k,k≠g->w'.heap[k]? =w.heap[k]?)/\w'.os=w.os/\w'.tape=w.tape/\w'.output=w.output:=by
    rw[hss]
    simp only[Nat.zero_mul,Nat.sub_zero]
    rcases hh with ⟨kQ,hnn⟩|⟨ad,c,kQ,hcell⟩
    ·subst hnn
     have hnv0:nv=[]:=List.eq_nil_of_length_eq_zero (by simpa using hnl)
     subst hnv0
     refine⟨w,?_,by simpa[gz] using hg',rfl,λ_ _=>rfl,rfl,rfl,rfl⟩
     rw[kQ]
     have hcut:w.ownsRow 0 e sz (.slice (some ⟨g,0,none⟩) len cap) len (inner.take (len*sz)):=⟨by rw[List.length_take,hil,Nat.min_eq_left (Nat.mul_le_mul_right _ (by omega))],.inr ⟨g,cap,cur,rfl,Nat.zero_le _,hg',by omega,h8,h9,by rw[<-h10,List.take_take,Nat.min_eq_left (Nat.mul_le_mul_right _ (by omega))]⟩⟩
     exact run_append_owned_none (P:=P) (w:=w) 0 t o.type e i sz hu hi _ len _ hcut
    ·rw[kQ]
     refine⟨_,run_append_room (P:=P) w t o.type e i hu hi g len cap cur hg' ad news.length c nv (by rw[hsi];exact hnl) hcell (λy hy=>by
      obtain⟨j,hj⟩:=List.getElem?_of_mem hy
      have hlt:j<news.flatten.length:=by rw[UE.1];exact(List.getElem?_eq_some_iff.1 hj).1
      exact(UE.2 j _ y (List.getElem?_eq_getElem hlt) hj).2) (by omega) (by rw[hsi];exact hfit),?_,by simp[World.setRow],λk hk=>setRow_other w g k _ hk,rfl,rfl,rfl⟩
     rw[hsi,hcur]
     exact setRow_heap w g cur _ e _ hg'
   obtain⟨w',hrun,q1,q2,q3,q4,q5,q6⟩:=hrun
   unfold Oper.wp
   rw[nV ho hrun]
   have:=h3.write (.row e sz (rows.take len++news++rows.drop (len+news.length))) h2 hv0 q4 q5 q6 (by rw[q2];exact Nat.le_refl _) (λk _ hk=>q3 k (λe=>hk (by rw[e];rfl))) (λρ' H' e' _=>uy hz hl hn hle U h7 h8 h9 h10 hil hc UE q1 e')
   refine hN _ w' ρ _ _ this.1 this.2 ?_ hk
   have h11:=eF.own (ok:=bF ρ (set H id (some (.row e sz (rows.take len++news++rows.drop (len+news.length)))))) (w:=w') id 0 (len+news.length) sz g rows.length cap hv0 (by omega) h8
   simpa using h11
theorem Does.pQ{t e s b:Nat}{x y z:Operand}{id len l h:Nat}{ki kj:IntKind}{rows:List (List AV)}(hg:o.guard=none)(ho:o.op=.slice t x (some y) (some z) none)(ht:lu P t=some (e,s,b))(hx:ev T x=.own id 0 len s)(h2:H id=some (.row e s rows))
 (hy:ev T y=.v (.int ki (l:Int))) (hz:ev T z=.v (.int kj (h:Int))) (h1:l<=h) (hh:h<=rows.length) (hk:K (.own id l (h-l) s) H):Does P n ops o T H K:=by
 refine Does.val _ hg (λa w ρ hrel hr=>?_) hk
 have h3:=hr x
 rw[hx] at h3
 obtain⟨v0,hv0,hzz,inner,how,hl,hc⟩:=hrel.ob _ _ h2
 obtain⟨hu,he,_⟩:=eH ht
 have hu':P.underlying t=some (.slice (P.elem t)):=by rw[he];exact hu
 have hsz:(sizeOf (P.elem t)).run P w=.ok s w:=by rw[he];exact og ht w
 have h5:=hr y;rw[hy] at h5
 have h6:=hr z;rw[hz] at h6
 have key:∀A m cap,a.eval x=.slice A m cap->rows.length<=cap->eF (bF ρ H) ρ w (.own id 0 rows.length s) (.slice A rows.length cap)->∃y,(execOp a.eval o).run P w=.ok (.value y) w/\eF (bF ρ H) ρ w (.own id l (h-l) s) y:=by
  intro A m cap kQ hcap hrep
  obtain⟨A',m',cap',e1,e2,e3,e4⟩:=qc hrep h1 hh
  cases e1
  rw[Nat.zero_add] at e4
  refine⟨_,jD ho (λx=>run_sliceAt_slice (P:=P) (w:=w) t x _ _ _ hu') ?_,e4⟩
  rw[kQ]
  simp only[Option.map_some,Option.map_none,aV h5,aV h6]
  rw[run_slice_lh (P:=P) w t A m cap hu' ki kj l h (by omega) (by omega) (by omega),hsz]
  simp
 generalize kQ:a.eval x=xx at h3
 cases h3 with
 |o7 _ _ _ g m c o' c' hv h0 _=>exact absurd U h0
 |nu _ _ hv=>
  rw[hv0] at hv
  cases hv
  have hr0:rows.length=0:=by
   rcases how.2 with ⟨_,h⟩|⟨g,cap,cur,h,_⟩
   ·exact h
   ·cases h
  refine key none 0 0 kQ (by omega) ?_
  rw[hr0]
  exact .nu id s hv0
 |own _ _ _ _ g m cap hv BS hmax=>
  rw[hv0] at hv
  cases hv
  rcases how.2 with ⟨h6,_⟩|⟨g',cap',cur,h6,_,hg',h7,h8,h9,h10⟩
  ·cases h6
  ·cases h6
   refine key _ len cap (by simpa using kQ) h7 ?_
   have:=eF.own (ok:=bF ρ H) (w:=w) id 0 rows.length s g rows.length cap hv0 (by omega) h8
   simpa using this
theorem Does.uz{t e s b:Nat}{x y z v:Operand}{id len l h m:Nat}{ki kj km:IntKind}(hg:o.guard=none)(ho:o.op=.slice t x (some y) (some z) (some v))(ht:lu P t=some (e,s,b))(hx:ev T x=.own id 0 len s)
 (hy:ev T y=.v (.int ki (l:Int))) (hz:ev T z=.v (.int kj (h:Int))) (hm:ev T v=.v (.int km (m:Int))) (h1:l<=h) (hh:h<=m) (yE:m<=len) (hk:K .any H):Does P n ops o T H K:=by
 refine Does.val _ hg (λa w ρ hrel hr=>?_) hk
 have h3:=hr x
 rw[hx] at h3
 obtain⟨hu,he,_⟩:=eH ht
 have hu':P.underlying t=some (.slice (P.elem t)):=by rw[he];exact hu
 have hsz:(sizeOf (P.elem t)).run P w=.ok s w:=by rw[he];exact og ht w
 have h5:=hr y;rw[hy] at h5
 have h6:=hr z;rw[hz] at h6
 have h7:=hr v;rw[hm] at h7
 have key:∀A n cap,a.eval x=.slice A n cap->m<=cap->∃y,(execOp a.eval o).run P w=.ok (.value y) w/\eF (bF ρ H) ρ w .any y:=by
  intro A n cap kQ hcap
  have hrun:(Instr.slice t (a.eval x) ((some y).map a.eval) ((some z).map a.eval) ((some v).map a.eval)).run P w=.ok (sliced A (l:Int).toNat (h:Int).toNat (m:Int).toNat s) w:=by
   rw[kQ]
   simp only[Option.map_some,aV h5,aV h6,aV h7]
   rw[run_slice_lhm (P:=P) w t A n cap hu' ki kj km l h m (by omega) (by omega) (by omega) (by omega),hsz]
   rfl
  exact⟨_,jD ho (λx=>run_sliceAt_slice (P:=P) (w:=w) t x _ _ _ hu') hrun,.any _⟩
 generalize kQ:a.eval x=xx at h3
 cases h3 with
 |o7 _ _ _ g m c o' c' hv h0 _=>exact absurd U h0
 |nu _ _ hv=>exact key _ _ _ kQ (by omega)
 |own _ _ _ _ g m cap hv BS hmax=>exact key _ _ _ kQ (by omega)
theorem mI(z:Array Value)(m:Nat)(hz:0<z.size):(Builtin.zeroCells z m).toList=(List.replicate m z.toList).flatten:=by
 apply List.ext_getElem?
 intro j
 have hfl:(List.replicate m z.toList).flatten.length=m*z.size:=by simp
 by_cases hj:j<m*z.size
 ·have hq:j/z.size<m:=(Nat.div_lt_iff_lt_mul hz).2 hj
  have hr:j % z.size<z.size:=Nat.mod_lt _ hz
  have hjj:j=j/z.size*z.size+j % z.size:=by rw[Nat.mul_comm];exact(Nat.div_add_mod j z.size).symm
  have h1:=iA z.size hz (List.replicate m z.toList) (by intro cs hcs;rw[List.eq_of_mem_replicate hcs];simp) (j/z.size) z.toList (j % z.size) (by rw[List.getElem?_replicate,if_pos hq]) hr
  rw[<-hjj] at h1
  rw[h1]
  simp[Builtin.zeroCells,hj,hr]
 ·rw[List.getElem?_eq_none (by rw[Array.length_toList,size_zeroCells];omega),List.getElem?_eq_none (by rw[hfl];omega)]
theorem Does.SI{t e sz b:Nat}{x:Operand}{id off len:Nat}{rows:List (List AV)}{z:Value}{zs:List AV}(hg:o.guard=none)(ho:o.op=.call {callee:=.builtin .clear,args:= #[x],argTypes:= #[t]})(ht:kg P t e sz b)
 (hx:ev T x=.own id off len sz) (h2:H id=some (.row e sz rows)) (hle:off+len<=rows.length) (hz0:(P.info? e).map (·.zero)=some (some z)) (hzs:z.cells.toList.map AV.v=zs)
 (hk:K .any (set H id (some (.row e sz (rows.take off++List.replicate len zs++rows.drop (off+len)))))):Does P n ops o T H K:=by
 intro a w ρ h1 hd h3 h4 N Q hN
 rw[if_pos (by simp[Region.wanted,hg])]
 have hr:=iH h4
 have h5:=hr x
 rw[hx] at h5
 obtain⟨v0,hv0,hz,inner,how,hl,hc⟩:=h3.ob _ _ h2
 obtain⟨hu,he,i,hi,hsi,hbi⟩:=eH ht.sl
 obtain⟨z',hz',Pe,hzc⟩:=ht.zero
 rw[hz0] at hz'
 cases hz'
 have hil:inner.length=rows.length*sz:=how.1
 have hop:∀{w'},(Builtin.clear_ #[t] o.type #[a.eval x]).run P w=.ok (.tuple #[]) w'->(execOp a.eval o).run P w=.ok (.value (.tuple #[])) w':=by
  intro w' h
  unfold execOp
  rw[ho]
  simp only[resolve,List.map_toArray,List.map_cons,List.map_nil,Sem.run_bind,Sem.run_pure,Result.andThen_ok,invoke,builtin,h]
 have hzl:∀cs∈List.replicate len zs,cs.length=sz:=λcs hcs=>by rw[List.eq_of_mem_replicate hcs,<-hzs];simpa using Pe
 have same:len=0->(Builtin.clear_ #[t] o.type #[a.eval x]).run P w=.ok (.tuple #[]) w->(match (execOp a.eval o).run P w with|_=>o.wp P a w N Q):=by
  intro hl0 hrun
  subst hl0
  show o.wp P a w N Q
  unfold Oper.wp
  rw[hop hrun]
  have hset:set H id (some (.row e sz (rows.take off++List.replicate 0 zs++rows.drop (off+0))))=H:=by
   funext j
   by_cases hj:j=id
   ·subst hj;rw[set_self,h2];simp
   ·rw[dZ _ _ hj]
  rw[hset] at hk
  exact hN _ w ρ _ _ h3 (Ext.refl _ _ _) (.any _) hk
 generalize hss:a.eval x=ss at h5
 cases h5 with
 |o7 _ _ _ g m c o' c' hv h0 _=>exact same U (by rw[hss];simp[Builtin.clear_,run_underlying hu])
 |nu _ _ hv=>exact same U (by rw[hss];simp[Builtin.clear_,run_underlying hu])
 |own _ _ _ _ g m cap hv BS hmax=>
  cases hlen:len with
  |zero=>subst hlen;exact same U (by rw[hss];simp[Builtin.clear_,run_underlying hu])
  |succ len'=>
  rw[hv0] at hv
  cases hv
  rcases how.2 with ⟨h6,_⟩|⟨g',cap',cur,h6,_,hg',h7,h8,h9,h10⟩
  ·cases h6
  ·cases h6
   have hzv:(zeroValue e).run P w=.ok z w:=by
    obtain⟨i',hi',hz'⟩:=Option.map_eq_some_iff.1 hz0
    simp[zeroValue,typeInfo,hi',hz',go_sem]
   have hzl2:(Builtin.zeroCells z.cells (len'+1)).toList=(List.replicate (len'+1) z.cells.toList).flatten:=mI _ _ (by rw[Pe];exact hz)
   have hnl:(Builtin.zeroCells z.cells (len'+1)).toList.length=(len'+1)*sz:=by rw[Array.length_toList,size_zeroCells,Pe]
   have hfit:off*sz+0+(Builtin.zeroCells z.cells (len'+1)).toList.length<=cur.size:=by rw[hnl,h9,Nat.add_zero,<-Nat.add_mul];exact Nat.mul_le_mul_right _ (by omega)
   obtain⟨w',hw',hwr⟩:=ui (P:=P) g e (off*sz) (Builtin.zeroCells z.cells (len'+1)).toList 0 w cur hg' hfit (λv hv=>by
    rw[hzl2] at hv
    obtain⟨cs,hcs,hv⟩:=List.mem_flatten.1 hv
    rw[List.eq_of_mem_replicate hcs] at hv
    exact List.all_eq_true.1 hzc v hv)
   have hrun:(Builtin.clear_ #[t] o.type #[a.eval x]).run P w=.ok (.tuple #[]) w':=by
    rw[hss,hlen]
    simp[Builtin.clear_,run_underlying hu,hzv,hw']
   unfold Oper.wp
   rw[hop hrun]
   have hat:=hwr.at_
   rw[Nat.add_zero] at hat
   have XA:bA (bF ρ H) ρ w (List.replicate len zs).flatten (Builtin.zeroCells z.cells (len'+1)).toList:=by
    rw[hzl2,hlen,<-hzs]
    have hmap:(List.replicate (len'+1) (z.cells.toList.map AV.v)).flatten=((List.replicate (len'+1) z.cells.toList).flatten).map AV.v:=by
     rw[List.map_flatten,List.map_replicate]
    rw[hmap]
    refine⟨by simp,λj u y hu hy=>?_⟩
    rw[List.getElem?_map,hy] at hu
    cases hu
    refine⟨.v y,?_⟩
    have hm:=List.mem_of_getElem? hy
    obtain⟨cs,hcs,hm⟩:=List.mem_flatten.1 hm
    rw[List.eq_of_mem_replicate hcs] at hm
    exact List.all_eq_true.1 hzc y hm
   have hkk:=hk
   have e1:(List.replicate len zs).length=len:=List.length_replicate
   have:=h3.write (.row e sz (rows.take off++List.replicate len zs++rows.drop (off+len))) h2 hv0 hwr.os hwr.tape hwr.output (by rw[hwr.size];exact Nat.le_refl _) (λk _ hk=>hwr.block k (λe=>hk (by rw[e];rfl))) (λρ' H' e' _=>by
    have:=uy (p:=off) (news:=List.replicate len zs) hz hl hzl (by rw[e1];exact hle) U h7 h8 h9 h10 hil hc XA hat e'
    rw[e1] at this;exact this)
   exact hN _ w' ρ _ _ this.1 this.2 (.any _) hkk
end
section
variable {P:Program} {n:Nat} {Q:sN->Sl->Hp->Prop} {H0:Hp} {c:Code} {l:List (Nat×AV)} {I:List (Nat×Ob)} {ops:Array Oper} {rest:List Oper} {o:Oper}
variable {d:Nat} {x y z:Operand} {u:AV} {t e sz b:Nat} {id k:Nat} {ob:Ob} {cells:List AV} {rows:List (List AV)} {K:AV->List (Nat×Ob)->Prop}
theorem DS.xS{s:Operand}{len:Nat}{news rs:List (List AV)}{aM:List (Nat×Ob)}(hg:o.guard=none)(ho:o.op=.call {callee:=.builtin .append,args:= #[s,x],argTypes:= #[t,t]})(ht:kg P t e sz b)
 (hs:aW l s=some (.own id 0 len sz)) (h2:I[k]? =some (id,.row e sz rows)) (hx:aW l x=some u) (hsrc:uo I sz u news) (hle:len+news.length<=rows.length) (hr:rows.take len++news++rows.drop (len+news.length)=rs) (ji:I.set k (id,.row e sz rs)=aM)
 (hk:K (.own id 0 (len+news.length) sz) aM):DS P n ops H0 o l I K:=by
 subst hr ji
 exactλay=>Does.xS hg ho ht (aG hs) (ay.at_ h2) hle (by rw[aG hx];exact hsrc.to ay) ⟨_,(ay.ku _ h2).1,(ay.ku _ h2).2,hk⟩
theorem DS.pQ{len i j:Nat}{ki kj:IntKind}(hg:o.guard=none)(ho:o.op=.slice t x (some y) (some z) none)(ht:lu P t=some (e,sz,b))(hx:aW l x=some (.own id 0 len sz))(h2:I[k]? =some (id,.row e sz rows))
 (hy:aW l y=some (.v (.int ki (i:Int)))) (hz:aW l z=some (.v (.int kj (j:Int)))) (h1:i<=j) (hh:j<=rows.length) (hk:K (.own id i (j-i) sz) I):DS P n ops H0 o l I K:=
 λay=>Does.pQ hg ho ht (aG hx) (ay.at_ h2) (aG hy) (aG hz) h1 hh ⟨I,rfl,ay,hk⟩
theorem US.pQ{len i j:Nat}{ki kj:IntKind}(hd:o.dst=some d)(hn:d<n)(hg:o.guard=none)(ho:o.op=.slice t x (some y) (some z) none)(ht:lu P t=some (e,sz,b))(hx:aW l x=some (.own id 0 len sz))(h2:I[k]? =some (id,.row e sz rows))
 (hy:aW l y=some (.v (.int ki (i:Int)))) (hz:aW l z=some (.v (.int kj (j:Int)))) (h1:i<=j) (hh:j<=rows.length) (hk:US P n ops Q H0 rest ((d,.own id i (j-i) sz)::l) I):US P n ops Q H0 (o::rest) l I:=
 US.step hd hn (DS.pQ hg ho ht hx h2 hy hz h1 hh hk)
theorem DS.clear{off len:Nat}{zv:Value}{zs:List AV}{rs:List (List AV)}{aM:List (Nat×Ob)}(hg:o.guard=none)(ho:o.op=.call {callee:=.builtin .clear,args:= #[x],argTypes:= #[t]})(ht:kg P t e sz b)
 (hx:aW l x=some (.own id off len sz)) (h2:I[k]? =some (id,.row e sz rows)) (hle:off+len<=rows.length) (hz0:(P.info? e).map (·.zero)=some (some zv)) (hzs:zv.cells.toList.map AV.v=zs) (hr:rows.take off++List.replicate len zs++rows.drop (off+len)=rs) (ji:I.set k (id,.row e sz rs)=aM)
 (hk:∀u,K u aM):DS P n ops H0 o l I K:=by
 subst hr ji
 exactλay=>Does.SI hg ho ht (aG hx) (ay.at_ h2) hle hz0 hzs ⟨_,(ay.ku _ h2).1,(ay.ku _ h2).2,hk _⟩
theorem US.clear{off len:Nat}{zv:Value}{zs:List AV}{rs:List (List AV)}{aM:List (Nat×Ob)}(hd:o.dst=none)(hg:o.guard=none)(ho:o.op=.call {callee:=.builtin .clear,args:= #[x],argTypes:= #[t]})(ht:kg P t e sz b)
 (hx:aW l x=some (.own id off len sz)) (h2:I[k]? =some (id,.row e sz rows)) (hle:off+len<=rows.length) (hz0:(P.info? e).map (·.zero)=some (some zv)) (hzs:zv.cells.toList.map AV.v=zs) (hr:rows.take off++List.replicate len zs++rows.drop (off+len)=rs) (ji:I.set k (id,.row e sz rs)=aM)
 (hk:US P n ops Q H0 rest l aM):US P n ops Q H0 (o::rest) l I:=
 US.step0 hd (DS.clear hg ho ht hx h2 hle hz0 hzs hr ji λ_=>hk)
theorem QS.uz{v:Operand}{len i j m:Nat}{ki kj km:IntKind}(hg:o.guard=none)(ho:o.op=.slice t x (some y) (some z) (some v))(ht:lu P t=some (e,sz,b))(hx:aW l x=some (.own id 0 len sz))
 (hy:aW l y=some (.v (.int ki (i:Int)))) (hz:aW l z=some (.v (.int kj (j:Int)))) (hm:aW l v=some (.v (.int km (m:Int)))) (h1:i<=j) (hh:j<=m) (yE:m<=len):QS P n ops H0 o l I .any:=
 λay=>Does.uz hg ho ht (aG hx) (aG hy) (aG hz) (aG hm) h1 hh yE ⟨rfl,rfl⟩
theorem US.MV{f:Nat}{cc:Operand}{args:Array Operand}{at_:Array TypeId}{df us:List AV}{r:AV}{yT:Ob}{aM:List (Nat×Ob)}(k:Nat)(hd:o.dst=some d)(hn:d<n)(hg:o.guard=none)(ho:o.op=.call {callee:=.value cc,args:=args,argTypes:=at_})(hc:aW l cc=some (.iF f df))(ha:iM l args.toList=some us)
 (h2:I[k]? =some (id,ob)) (h:∀G,G id=none->au P f (us++df) (aD G [(id,ob)]) (λu H'=>u=r/\H'=aD G [(id,yT)])) (ji:I.set k (id,yT)=aM) (hk:US P n ops Q H0 rest ((d,r)::l) aM):US P n ops Q H0 (o::rest) l I:=by
 subst ji
 intro ay
 have h3:=ay.at_ h2
 have e1:aD (set (aD H0 I) id none) [(id,ob)]=aD H0 I:=by
  show set (set (aD H0 I) id none) id (some ob)=_
  funext j
  by_cases hj:j=id
  ·subst hj;rw[set_self,h3]
  ·rw[dZ _ _ hj,dZ _ _ hj]
 have e2:aD (set (aD H0 I) id none) [(id,yT)]=aD H0 (I.set k (id,yT)):=by
  rw[<-(ay.ku yT h2).1]
  show set (set (aD H0 I) id none) id (some yT)=_
  funext j
  by_cases hj:j=id
  ·subst hj;rw[set_self,set_self]
  ·rw[dZ _ _ hj,dZ _ _ hj,dZ _ _ hj]
 have h4:=h (set (aD H0 I) id none) (by simp)
 rw[e1,e2] at h4
 exact US.call hd hn hg ho hc ha (λ_=>h4) (λu H' ⟨q1,q2⟩=>⟨_,q2,λ_=>(ay.ku yT h2).2,by rw[q1];exact hk⟩) ay
theorem aP.old{H0:Hp}{ob:Ob}(h0:H0 id=some ob):∀{I:List (Nat×Ob)},aP H0 I->aD H0 I id=some ob
 |_,.nil=>h0
 |_,.cons (i:=i) h1 h2=>by
  have h3:=aP.old h0 h2
  have hne:id≠i:=by rintro rfl;rw[h3] at h1;cases h1
  unfold aD
  rw[dZ _ _ hne];exact h3
theorem QS.ld_old{off:Nat}{ls:List AV}(hg:o.guard=none)(ho:o.op=.load t x)(ht:eQ P t=some (false,sz))(hx:aW l x=some (.ptr id off))(h2:H0 id=some (.box e ls))(hr:ls[off]? =some u):QS P n ops H0 o l I u:=
 λay=>Does.pI hg ho (aG hx) (ay.old h2) ht hr ⟨rfl,rfl⟩
def RB:AV->AV
 | .v (.slice none 0 0)=> .sl []
 |u=>u
def lY:List AV->List AV
 |[]=>[]
 |u::r=>RB u::lY r
theorem wG:∀r:List AV,lY r=r.map RB
 |[]=>rfl
 |u::r=>by rw[lY,wG r];rfl
theorem BZ{ok:Nat->Prop}{ρ:ik}{w:World}{u:AV}{x:Value}(h:eF ok ρ w u x):eF ok ρ w (RB u) x:=by
 unfold RB
 split
 ·rw[aV h];exact .nil
 ·exact h
theorem MW{ρ:ik}{H H':Hp}(h:∀i,(H i).isSome=(H' i).isSome):bF ρ H=bF ρ H':=by
 funext k
 have hx:∀{H H':Hp},(∀i,(H i).isSome=(H' i).isSome)->Own ρ H k->Own ρ H' k:=by
  rintro H H' h ⟨id,ob,v,h1,h2,h3⟩
  have h4:=h id
  rw[h1] at h4
  cases h5:H' id with
  |none=>rw[h5] at h4;cases h4
  |some yT=>exact⟨id,yT,v,h5,h2,h3⟩
 exact propext ⟨λhn ho=>hn (hx (λi=>(h i).symm) ho),λhn ho=>hn (hx h ho)⟩
theorem MX{E:UL}{a:Act}{w:World}{T:Sl}(ay:aP H0 I)(h2:I[k]? =some (id,.box e cells))(hi:Inv E n T (aD H0 I) a w):Inv E n T (aD H0 (I.set k (id,.box e (lY cells)))) a w:=by
 obtain⟨ρ,h1,h2',h3⟩:=hi.rel
 have hs:=(ay.ku (.box e (lY cells)) h2).1
 have hat:=ay.at_ h2
 have hdom:∀i,(aD H0 I i).isSome=(aD H0 (I.set k (id,.box e (lY cells))) i).isSome:=by
  intro i
  rw[<-hs]
  by_cases hj:i=id
  ·subst hj;rw[set_self,hat];rfl
  ·rw[dZ _ _ hj]
 have hok:=MW (ρ:=ρ) hdom
 refine⟨hi.size,hi.defers,ρ,⟨λid' ob ji=>?_,λi i' o o' v v' k' q1 q2 q3 q4 q5 q6=>?_,h1.room,h1.lt⟩,⟨h2'.os,h2'.tape,h2'.output,h2'.size,h2'.block,λk' ho=>h2'.own k' ?_,h2'.ME⟩,λt=>by rw[<-hok];exact h3 t⟩
 ·rw[<-hok]
  rw[<-hs] at ji
  by_cases hj:id'=id
  ·subst hj
   rw[set_self] at ji
   cases ji
   obtain⟨v,q1,g,vals,q2,q3,q4⟩:=h1.ob _ _ hat
   refine⟨v,q1,g,vals,q2,q3,by rw[wG,List.length_map];exact q4.1,λj u x hu hx=>?_⟩
   rw[wG,List.getElem?_map] at hu
   cases hc:cells[j]? with
   |none=>rw[hc] at hu;cases hu
   |some u0=>
    rw[hc] at hu
    cases hu
    have:=q4.2 j u0 x hc hx
    exact⟨BZ this.1,this.2⟩
  ·rw[dZ _ _ hj] at ji
   exact h1.ob _ _ ji
 ·have hx:∀{i:Nat} {o:Ob},aD H0 (I.set k (id,.box e (lY cells))) i=some o->∃o',aD H0 I i=some o':=by
   intro i o h
   have h4:=hdom i
   rw[h] at h4
   cases h5:aD H0 I i with
   |none=>rw[h5] at h4;cases h4
   |some o'=>exact⟨o',rfl⟩
  obtain⟨p1,p2⟩:=hx q1
  obtain⟨p3,p4⟩:=hx q2
  exact h1.apart i i' _ _ v v' k' p2 p4 q3 q4 q5 q6
 ·have:¬bF ρ (aD H0 (I.set k (id,.box e (lY cells)))) k':=λh=>h ho
  rw[<-hok] at this
  exact Classical.not_not.1 this
theorem US.Pf{aM:List (Nat×Ob)}(k:Nat)(h2:I[k]? =some (id,.box e cells))(ji:I.set k (id,.box e (lY cells))=aM)(hk:US P n ops Q H0 rest l aM):US P n ops Q H0 rest l I:=by
 subst ji
 exactλhd E a w hi=>hk (hd.ku _ h2).2 E a w (MX hd h2 hi)
theorem US.oK{zs:List Value}{us ni:List AV}{z:Value}(hd:o.dst=some d)(hn:d<n)(hg:o.guard=none)(ho:o.op=.alloc e)(hz:(P.info? e).map (·.zero)=some (some z))(hzs:z.cells.toList=zs)(hc:zs.all (·.oneCell')=true)(hv:vals zs=some us)(hu:lY us=ni)
 (hk:∀id,US P n ops Q H0 rest ((d,.ptr id 0)::l) ((id,.box e ni)::I)):US P n ops Q H0 (o::rest) l I:=
 US.alloc' hd hn hg ho hz hzs hc hv λid=>US.Pf 0 U U (by rw[List.set_cons_zero,hu];exact hk id)
theorem US.slot(d:Nat){u':AV}(hl:look l d=some u)(ht:bO (aD H0 I) u (aD H0 I) u')(hk:US P n ops Q H0 rest ((d,u')::l) I):US P n ops Q H0 rest l I:=by
 intro hd
 refine vV.turn (λ_ _ h=>h) (λt=>?_) (hk hd)
 unfold gD
 simp only[look]
 by_cases ht':t=d
 ·subst ht'
  rw[hl,if_pos U];exact ht
 ·rw[if_neg ht'];exact bO.drop (λ_ _ h=>h) _
theorem bO.Pf{H H':Hp}(hs:Sub H' H)(r:List AV):bO H (.agg r) H' (.agg (lY r)):=by
 rw[wG]
 refine bO.agg (List.length_map ..) λj u u' h1 h2=>?_
 rw[List.getElem?_map,h1] at h2
 cases h2
 intro ρ w x hh hr
 exact BZ (bO.drop hs u ρ w x hh hr)
theorem QS.Pf{us ni:List AV}(hu:lY us=ni)(h:QS P n ops H0 o l I (.agg us)):QS P n ops H0 o l I (.agg ni):=by
 subst hu
 intro ay a w ρ h1 h2 h3 h4 N Q hN
 refine h ay a w ρ h1 h2 h3 h4 N Q λx w' ρ' u H' q1 q2 q3 q4=>?_
 obtain⟨rfl,rfl⟩:=q4
 exact hN x w' ρ' _ _ q1 q2 (bO.Pf (λ_ _ h=>h) us ρ' w' x q1 q3) ⟨rfl,rfl⟩
theorem US.Ca{parts:Array (Nat×Operand)}{zs:List Value}{places:List (Nat×Nat)}{us MU rs rs':List AV}{ky:List (List AV)}(iC:List Nat)(hd:o.dst=some d)(hn:d<n)(hg:o.guard=none)(ho:o.op=.build t parts)(ht:oJ P t=some (zs,places))(hz:zs.all (·.oneCell')=true)(hv:vals zs=some MU)
 (ha:iM l (parts.toList.map (·.2))=some us) (hf:mF us=some ky) (hc:(ky.all λcs=>cs.all aT)=true) (hp:lv places (parts.toList.map (·.1)) iC (ky.map (·.length))=true) (hr:Ar MU iC ky=some rs) (hu:lY rs=rs') (hk:US P n ops Q H0 rest ((d,.agg rs')::l) I):US P n ops Q H0 (o::rest) l I:=
 US.qs hd hn (QS.Pf hu (QS.build iC hg ho ht hz hv ha hf hc hp hr)) hk
theorem QS.Ca{parts:Array (Nat×Operand)}{zs:List Value}{places:List (Nat×Nat)}{us MU rs rs':List AV}{ky:List (List AV)}(iC:List Nat)(hg:o.guard=none)(ho:o.op=.build t parts)(ht:oJ P t=some (zs,places))(hz:zs.all (·.oneCell')=true)(hv:vals zs=some MU)
 (ha:iM l (parts.toList.map (·.2))=some us) (hf:mF us=some ky) (hc:(ky.all λcs=>cs.all aT)=true) (hp:lv places (parts.toList.map (·.1)) iC (ky.map (·.length))=true) (hr:Ar MU iC ky=some rs) (hu:lY rs=rs'):QS P n ops H0 o l I (.agg rs'):=QS.Pf hu (QS.build iC hg ho ht hz hv ha hf hc hp hr)
end
end
section
variable [Rd]
section
variable {P:Program} {n:Nat} {T:Sl} {H:Hp} {ops:Array Oper} {o:Oper} {K:AV->Hp->Prop}
theorem Does.SK{t:Nat}{x:Operand}{s:ByteArray}(hg:o.guard=none)(ho:o.op=.range t x)(ht:P.underlying t=some .string)(hx:ev T x=.v (.string s))
 (hk:∀id,H id=none->K (.ptr id 0) (set H id (some (.iter s 0)))):Does P n ops o T H K:=by
 refine Does.Aj hg λa w ρ h hr=>?_
 have h3:=hr x
 rw[hx] at h3
 have h4:=aV h3
 refine⟨.pointer (some ⟨w.heap.size,0,none⟩),.pointer (some ⟨w.heap.size,0,none⟩),w.iter s 0,.iter s 0,?_,iP _ _,?_,λρ' H' e=>⟨_,rfl,World.iter_heap w s 0⟩,?_⟩
 ·unfold execOp
  rw[ho]
  simp only[h4,Sem.run_bind,run_range_string (P:=P) w t s ht,Result.andThen_ok,Sem.run_pure]
 ·intro k hk;cases hk;rw[World.iter,size_alloc];simp
 ·intro id hid
  exact⟨.ptr id 0,λok' ρ' h=> .ptr id 0 _ _ h (.inl U),hk id hid⟩
theorem run_next_at(w:World)(g:Nat)(s:ByteArray)(pos:Nat)(ty:TypeId)(hg:w.heap[g]? =some (.stringIter s pos))(h:pos<s.size):
 (Instr.next (.pointer (some ⟨g,0,none⟩)) true ty).run P w=.ok (.tuple #[.bool true,.int .i64 pos,.int .i32 (Utf8.decode s pos).1]) {w with heap:=w.heap.setIfInBounds g (.stringIter s (pos+(Utf8.decode s pos).2))}:=by
 simp only[Instr.next,getObj,setObj,Sem.run_bind,Sem.run,hg,Result.andThen,h,if_true]
 simp[goInt]
theorem Ik(w:World)(g:Nat)(s:ByteArray)(pos:Nat)(ty:TypeId)(hg:w.heap[g]? =some (.stringIter s pos))(h:¬pos<s.size):
 (Instr.next (.pointer (some ⟨g,0,none⟩)) true ty).run P w=.ok (.tuple #[.bool false]) w:=by
 simp[Instr.next,getObj,Sem.run,hg,h]
theorem RF{ρ:ik}{w:World}{id pos:Nat}{s:ByteArray}{x:Value}(h:eu ρ H w)(h2:H id=some (.iter s pos))(hr:eF (bF ρ H) ρ w (.ptr id 0) x):
 ∃g,x=.pointer (some ⟨g,0,none⟩)/\ρ id=some x/\w.heap[g]? =some (.stringIter s pos):=by
 obtain⟨v,hv,g,rfl,hg⟩:=h.ob id _ h2
 cases hr with
 |ptr _ _ g' x' hx hx'=>
  rw[hv] at hx
  cases hx
  rcases hx' with h3|⟨_,_,h3⟩
  ·cases h3;exact⟨g,rfl,hv,hg⟩
  ·cases h3
theorem Does.U4{x:Operand}{id pos:Nat}{s:ByteArray}(hg:o.guard=none)(ho:o.op=.next x true)(hx:ev T x=.ptr id 0)(h2:H id=some (.iter s pos))(hlt:pos<s.size)
 (hk:K (.kX [.v (.bool true),.v (.int .i64 pos),.v (.int .i32 (Utf8.decode s pos).1)]) (set H id (some (.iter s (pos+(Utf8.decode s pos).2))))):Does P n ops o T H K:=by
 intro a w ρ h1 hd h3 h4 N Q hN
 rw[if_pos (by simp[Region.wanted,hg])]
 have hr:=iH h4
 have h5:=hr x
 rw[hx] at h5
 obtain⟨g,kQ,hρ,hgg⟩:=RF h3 h2 h5
 have hrun:(execOp a.eval o).run P w=.ok (.value (.tuple #[.bool true,.int .i64 pos,.int .i32 (Utf8.decode s pos).1])) {w with heap:=w.heap.setIfInBounds g (.stringIter s (pos+(Utf8.decode s pos).2))}:=by
  unfold execOp
  rw[ho]
  simp only[kQ,Sem.run_bind,run_next_at (P:=P) w g s pos o.type hgg hlt,Result.andThen_ok,Sem.run_pure]
 unfold Oper.wp
 rw[hrun]
 have hlt':g<w.heap.size:=(Array.getElem?_eq_some_iff.1 hgg).1
 rw[kQ] at hρ
 have:=h3.write (w':={w with heap:=w.heap.setIfInBounds g (.stringIter s (pos+(Utf8.decode s pos).2))}) (.iter s (pos+(Utf8.decode s pos).2)) h2 hρ U U U (by simp) (λk _ hk=>by
  have:g≠k:=λe=>hk (by rw[e];rfl)
  simp[Array.getElem?_setIfInBounds,this]) (λρ' H' e' _=>⟨g,rfl,by simp[Array.getElem?_setIfInBounds,hlt']⟩)
 refine hN _ _ ρ _ _ this.1 this.2 ?_ hk
 exact .kX _ [.bool true,.int .i64 pos,.int .i32 (Utf8.decode s pos).1] U (λj u y h6 h7=>by
  match j with
  |0=>simp at h6 h7;subst h6 h7;exact .v _
  |1=>simp at h6 h7;subst h6 h7;exact .v _
  |2=>simp at h6 h7;subst h6 h7;exact .v _
  |j+3=>simp at h6)
theorem Does.SL{x:Operand}{id pos:Nat}{s:ByteArray}(hg:o.guard=none)(ho:o.op=.next x true)(hx:ev T x=.ptr id 0)(h2:H id=some (.iter s pos))(hlt:¬pos<s.size)
 (hk:K (.kX [.v (.bool false)]) H):Does P n ops o T H K:=by
 refine Does.val _ hg (λa w ρ h hr=>?_) hk
 have h5:=hr x
 rw[hx] at h5
 obtain⟨g,kQ,hρ,hgg⟩:=RF h h2 h5
 refine⟨.tuple #[.bool false],?_,.kX _ [.bool false] U (λj u y h6 h7=>?_)⟩
 ·unfold execOp
  rw[ho]
  simp only[kQ,Sem.run_bind,Ik (P:=P) w g s pos o.type hgg hlt,Result.andThen_ok,Sem.run_pure]
 ·match j with
  |0=>simp at h6 h7;subst h6 h7;exact .v _
  |j+1=>simp at h6
theorem Does.extract{x:Operand}{us:List AV}{i:Nat}{u:AV}(hg:o.guard=none)(ho:o.op=.extract x i)(hx:ev T x=.kX us)(hu:us[i]? =some u)(hk:K u H):Does P n ops o T H K:=by
 refine Does.val _ hg (λa w ρ h hr=>?_) hk
 have h5:=hr x
 rw[hx] at h5
 generalize kQ:a.eval x=xx at h5
 cases h5 with
 |kX _ vs hl hr2=>
  have hlt:i<vs.length:=by rw[<-hl];exact(List.getElem?_eq_some_iff.1 hu).1
  refine⟨vs[i],?_,hr2 i u _ hu (List.getElem?_eq_getElem hlt)⟩
  unfold execOp
  rw[ho]
  simp only[Sem.run_bind,kQ,Instr.extract]
  simp[hlt]
theorem Does.compare{f:FuncId}{fn:Func}{c x y:Operand}{at_:Array TypeId}{p q:ByteArray}(hg:o.guard=none)(ho:o.op=.call {callee:=.value c,args:= #[x,y],argTypes:=at_})(hc:ev T c=.iF f [])
 (hf:P.funcs[f]? =some fn) (hname:(fn.name== "runtime.NumGoroutine")=false) (hb:fn.body.isNone=true) (hn:Extern.findNext fn=none) (he:Extern.find fn=some Extern.BytealgCompare.compare)
 (hx:ev T x=.v (.string p)) (hy:ev T y=.v (.string q)) (hk:K (.v (.int .i64 (Lib.compareBytes p.data.toList q.data.toList))) H):Does P n ops o T H K:=by
 refine Does.val _ hg (λa w ρ h hr=>?_) hk
 have h5:=hr c;rw[hc] at h5
 have h6:=hr x;rw[hx] at h6
 have h7:=hr y;rw[hy] at h7
 obtain⟨vs,hv,hl,hvs⟩:=Ea h5
 have U5:vs=[]:=List.eq_nil_of_length_eq_zero (by simpa using hl.symm)
 subst U5
 refine⟨_,?_,.v _⟩
 have h8:=run_callFunc_extern (P:=P) hf hname hb hn he #[.string p,.string q] w
 rw[Lib.run_compareString] at h8
 unfold execOp
 rw[ho]
 generalize a.eval=ev' at hv h6 h7⊢
 have e6:=aV h6
 have e7:=aV h7
 simp only[resolve,Deferred.ofValue,hv,invoke,Sem.run_bind,Sem.run_pure,Result.andThen_ok,List.map_toArray,List.map_cons,List.map_nil,e6,e7]
 simpa using h8
end
section
variable {P:Program} {n:Nat} {Q:sN->Sl->Hp->Prop} {H0:Hp} {c:Code} {l:List (Nat×AV)} {I:List (Nat×Ob)} {ops:Array Oper} {rest:List Oper} {o:Oper}
variable {d:Nat} {x y z:Operand} {u:AV} {t e sz b:Nat} {id k:Nat} {K:AV->List (Nat×Ob)->Prop}
theorem QS.extract{us:List AV}{i:Nat}(hg:o.guard=none)(ho:o.op=.extract x i)(hx:aW l x=some (.kX us))(hu:us[i]? =some u):QS P n ops H0 o l I u:=λ_=>Does.extract hg ho (aG hx) hu ⟨rfl,rfl⟩
theorem US.compare{f:FuncId}{fn:Func}{cc:Operand}{at_:Array TypeId}{p q:ByteArray}(hd:o.dst=some d)(hn:d<n)(hg:o.guard=none)(ho:o.op=.call {callee:=.value cc,args:= #[x,y],argTypes:=at_})(hc:aW l cc=some (.iF f []))
 (hf:P.funcs[f]? =some fn) (hname:(fn.name== "runtime.NumGoroutine")=false) (hb:fn.body.isNone=true) (hnx:Extern.findNext fn=none) (he:Extern.find fn=some Extern.BytealgCompare.compare)
 (hx:aW l x=some (.v (.string p))) (hy:aW l y=some (.v (.string q))) (hk:US P n ops Q H0 rest ((d,.v (.int .i64 (Lib.compareBytes p.data.toList q.data.toList)))::l) I):US P n ops Q H0 (o::rest) l I:=
 US.step hd hn λay=>Does.compare hg ho (aG hc) hf hname hb hnx he (aG hx) (aG hy) ⟨I,rfl,ay,hk⟩
theorem US.fV(d:Nat){off len:Nat}(k:Nat){rows rs:List (List AV)}(hl:look l d=some (.own id off len sz))(h2:I[k]? =some (id,.row e sz rows))(hle:off+len<=rows.length)(hr:(rows.drop off).take len=rs)(hk:US P n ops Q H0 rest ((d,.sl rs)::l) (I.eraseIdx k)):US P n ops Q H0 rest l I:=
 US.freeze d k hl h2 hle (by rw[hr];exact hk)
def litOk(sz:Nat)(ky:List (List AV)):Bool:=ky.all λcs=>cs.all aT&&cs.length==sz
theorem bz{ky:List (List AV)}(h:litOk sz ky=true):∀cs∈ky,cs.all aT=true/\cs.length=sz:=by
 intro cs hcs
 have:=List.all_eq_true.1 h cs hcs
 rw[Bool.and_eq_true,beq_iff_eq] at this
 exact this
end
end
end Go.iG
end
