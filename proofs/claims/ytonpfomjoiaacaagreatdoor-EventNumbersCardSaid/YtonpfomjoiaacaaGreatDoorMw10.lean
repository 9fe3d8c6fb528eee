/- A part of the proof. -/
import Derived.Test.YtonpfomjoiaacaaGreatDoorMw09
import Derived.Lib.UnsafeStr
import Derived.Lib.ConvBytes
import Derived.Lib.Builder
import Derived.Lib.LaidTab
import Derived.Laws.Pointers
import Derived.Laws.IdiomStrings
import Derived.Laws.BytesArg
import Derived.Test.YtonpfomjoiaacaaGreatDoorMw08
set_option maxRecDepth 100000
set_option maxHeartbeats 4000000
set_option linter.unusedSectionVars false
set_option linter.unusedVariables false
set_option linter.unusedSimpArgs false
section
namespace Go.iG
open Go Go.Lib Go.RowKit
section
variable [Rd]
theorem oq(s:ByteArray):s.data.toList.length=s.size:=by rw[Array.length_toList];rfl
def bN(s:ByteArray):List (List AV):=s.data.toList.map λb=>[.v (.int .u8 b.toNat)]
theorem gy(s:ByteArray):(bN s).length=s.size:=by unfold bN;rw[List.length_map];rfl
theorem y7(s:ByteArray):∀cs∈bN s,cs.length=1:=by
 intro cs h
 obtain⟨b,_,rfl⟩:=List.mem_map.1 h
 rfl
theorem uB(s:ByteArray):(bN s).flatten=s.data.toList.map λb=>AV.v (.int .u8 b.toNat):=by
 unfold bN
 induction s.data.toList with
 |nil=>rfl
 |cons b r ih=>simp only[List.map_cons,List.flatten_cons,ih];rfl
theorem M3{ok:Nat->Prop}{ρ:ik}{w:World}(s:ByteArray):bA ok ρ w (bN s).flatten (strCells s):=by
 rw[uB]
 have:=kv (ok:=ok) (ρ:=ρ) (w:=w) (strCells s) (List.all_eq_true.2 (strCells_oneCell s))
 unfold strCells at this⊢
 rwa [List.map_map] at this
section
variable {P:Program} {n:Nat} {T:Sl} {H:Hp} {ops:Array Oper} {o:Oper} {K:AV->Hp->Prop}
theorem Does.Pk{t t' e:Nat}{s x:Operand}{id len:Nat}{rows:List (List AV)}{str:ByteArray}(hg:o.guard=none)(ho:o.op=.call {callee:=.builtin .append,args:= #[s,x],argTypes:= #[t,t']})(ht:kg P t e 1 1)(hz8:(P.info? e).map (·.zero)=some (some (.int .u8 0)))(hu:P.underlying t'=some .string)
 (hs:ev T s=.own id 0 len 1) (h2:H id=some (.row e 1 rows)) (hle:len<=rows.length) (hx:ev T x=.v (.string str)) (hb:len+str.size<=140737488355328)
 (hk:∀id',H id'=none->K (.own id' 0 (len+str.size) 1) (set (set H id none) id' (some (.row e 1 (rows.take len++bN str))))):Does P n ops o T H K:=by
 intro a w ρ h1 hd h3 h4 N Q hN
 rw[if_pos (by simp[Region.wanted,hg])]
 have hr:=iH h4
 have h5:=hr s
 rw[hs] at h5
 have h6x:=hr x
 rw[hx] at h6x
 have hxv:=aV h6x
 obtain⟨v0,hv0,hz,inner,how,hl,hc⟩:=h3.ob _ _ h2
 have hcut:∃v,a.eval s=v/\w.ownsRow 0 e 1 v len (inner.take len)/\blk v=blk v0/\v.ownBlock=v0.ownBlock:=by
  generalize a.eval s=xx at h5
  have hil:inner.length=rows.length:=by have:=how.1;omega
  cases h5 with
  |nu _ _ hv=>
   rw[hv0] at hv;cases hv
   exact⟨_,rfl,⟨by simp,.inl ⟨rfl,rfl⟩⟩,rfl,rfl⟩
  |o7 _ _ _ g m c o' c' hv h0 _=>exact absurd U h0
  |own _ _ _ _ g m cap hv BS hmax=>
   rw[hv0] at hv;cases hv
   rcases how.2 with ⟨h6,_⟩|⟨g',cap',cur,h6,_,hg',h7,h8,h9,h10⟩
   ·cases h6
   ·cases h6
    refine⟨_,rfl,⟨by rw[List.length_take,hil];omega,.inr ⟨g,cap,cur,by simp,Nat.zero_le _,hg',by omega,h8,h9,?_⟩⟩,by simp[blk],by simp[Value.ownBlock]⟩
    rw[<-h10,List.take_take]
    congr 1
    omega
 obtain⟨v,hv,hown,hbv,hov⟩:=hcut
 obtain⟨hut,_,i,hi,hsi,hbi⟩:=eH ht.sl
 have hzi:i.zero=some (.int .u8 0):=by rw[hi] at hz8;simpa using hz8
 have yE:len+str.size<=maxLen:=by simp only[maxLen];omega
 obtain⟨v',w',hrun,hown',hgr,hnil⟩:=run_append_own_string (P:=P) w 0 t t' o.type e i hut hu hi hzi hsi hbi v len (inner.take len) hown str yE hb (Nat.zero_le _)
 have hat:v'.ownBlock=v.ownBlock\/v'.ownBlock=some w.heap.size:=by
  have hxl:(inner.take len).length=len:=by simpa using hown.1
  rcases hown.2 with ⟨rfl,rfl⟩|⟨g,cap,cur,rfl,hbg,hg',hnc,hcm,hcs,htake⟩
  ·by_cases hm:str.size=0
   ·exact .inl (by rw[hnil.2 ⟨rfl,hm⟩])
   ·have hr2:=run_append_nil_string (P:=P) w t t' o.type e i (.int .u8 0) hut hu hi hzi str (by omega) (by omega) (by rw[hbi];omega)
    rw[hr2] at hrun
    cases hrun
    exact .inr U
  ·by_cases hroom:len+str.size<=cap
   ·have hr2:=run_append_room_string (P:=P) w t t' o.type e i hut hu hi hsi g len cap cur hg' str hroom (by omega)
    rw[hr2] at hrun
    cases hrun
    exact .inl U
   ·have holds:∀j u,(inner.take len)[j]? =some u->w.cell? ((⟨g,0,none⟩:Addr).add j)=some u:=hown.cells (g:=g) U
    have hr2:=run_append_grow_string (P:=P) w t t' o.type e i (.int .u8 0) hut hu hi hzi ⟨g,0,none⟩ len cap (inner.take len) (by rw[hsi];omega) holds str (by omega) (by omega) (by rw[hbi];exact growslice_fits (by omega) (by omega))
    rw[hr2] at hrun
    cases hrun
    exact .inr U
 have hsl:=pM hown
 have UO:=pM hown'
 have htk:bA (bF ρ H) ρ w (rows.take len++bN str).flatten (inner.take len++strCells str):=by
  rw[List.flatten_append,iq 1 _ _ hl]
  refine iN ?_ (M3 str)
  have:=fT hc 0 (len*1)
  simpa using this
 obtain⟨id',ρ',e1,e2,e3,e4,e5⟩:=h3.move (w':=w') (v:=v') (.row e 1 (rows.take len++bN str)) h2 hv0 hgr.os hgr.tape hgr.output hgr.size
  (λk hk hn=>hgr.block k hk (λhe=>hn (by rw[<-hbv];exact(uk hsl).2 he.symm)))
  (λk hk=>⟨by
    have hk':=(uk UO).1 hk
    rcases hat with hat|hat
    ·left;rw[<-hbv];exact(uk hsl).2 (by rw[<-hat];exact hk')
    ·right;rw[hat] at hk';cases hk';exact Nat.le_refl _,O7 hown' hk⟩)
  (λρ' H' e'=>⟨hz,inner.take len++strCells str,by
    have:(rows.take len++bN str).length=len+str.size:=by rw[List.length_append,gy,List.length_take];omega
    rw[this];exact hown',λcs hcs=>by
     rcases List.mem_append.1 hcs with h6|h6
     ·exact hl cs (List.mem_of_mem_take h6)
     ·exact y7 str cs h6,e'.cells htk⟩)
 unfold Oper.wp
 rw[qm ho (by rw[hv,hxv];exact hrun)]
 exact hN v' w' ρ' _ _ e4 e5 (wC hown' e3) (hk id' e2)
theorem kS{ok:Nat->Prop}{ρ:ik}{w:World}{id off:Nat}{x:Value}(h:eF ok ρ w (.ptr id off) x):∃g v,x=.pointer (some ⟨g,off,none⟩)/\ρ id=some v/\(v=.pointer (some ⟨g,0,none⟩)\/∃n cap,v=.slice (some ⟨g,0,none⟩) n cap):=by
 cases h with
 |ptr _ _ g v hv hx=>exact⟨g,v,rfl,hv,hx⟩
theorem Does.nilCheck{x:Operand}{id off:Nat}(hg:o.guard=none)(ho:o.op=.nilCheck x)(hx:ev T x=.ptr id off)(hk:K (.ptr id off) H):Does P n ops o T H K:=by
 refine Does.val _ hg (λac w ρ hh hr=>?_) hk
 have h3:=hr x
 rw[hx] at h3
 obtain⟨g,v,e,_,_⟩:=kS h3
 refine⟨ac.eval x,?_,h3⟩
 unfold execOp
 rw[ho]
 simp only[e,Sem.run_pure]
theorem wL{op:BinOp}{t:Nat}{x y:Operand}{p:Option Addr}{b:Value}{w:World}:(eqGuard op t x y (.pointer p) b).run P w=.ok () w:=by
 unfold eqGuard
 cases op<;>simp
theorem Does.XC{t t2 e:Nat}{x:Operand}(hg:o.guard=none)(ho:o.op=.binOp .eql t x (.const (.pointer none)) t2)(ht:P.underlying t=some (.pointer e))(hx:ev T x=.v (.pointer none))(hk:K (.v (.bool true)) H):Does P n ops o T H K:=by
 refine Does.val _ hg (λac w ρ hh hr=>⟨_,iR ho ?_ ?_,.v _⟩) hk
 ·have h3:=hr x
  rw[hx] at h3
  rw[aV h3];exact wL
 ·have h3:=hr x
  rw[hx] at h3
  rw[aV h3]
  exact run_eql_pointer_nil w t _ (by unfold Program.pointee;rw[ht])
theorem Does.XD{t t2 e:Nat}{x:Operand}{id off:Nat}(hg:o.guard=none)(ho:o.op=.binOp .eql t x (.const (.pointer none)) t2)(ht:P.underlying t=some (.pointer e))(hx:ev T x=.ptr id off)(hk:K (.v (.bool false)) H):Does P n ops o T H K:=by
 refine Does.val _ hg (λac w ρ hh hr=>⟨_,iR ho ?_ ?_,.v _⟩) hk
 ·have h3:=hr x
  rw[hx] at h3
  obtain⟨g,v,e,_,_⟩:=kS h3
  rw[e];exact wL
 ·have h3:=hr x
  rw[hx] at h3
  obtain⟨g,v,e,_,_⟩:=kS h3
  rw[e]
  exact run_eql_pointer_nil w t _ (by unfold Program.pointee;rw[ht])
theorem Does.XE{t t2 e:Nat}{x y:Operand}{id off:Nat}{j:TypeInfo}(hg:o.guard=none)(ho:o.op=.binOp .neq t x y t2)(ht:P.underlying t=some (.pointer e))(hj:P.info? e=some j)(hx:ev T x=.ptr id off)(hy:ev T y=.ptr id off)(hk:K (.v (.bool false)) H):Does P n ops o T H K:=by
 refine Does.val _ hg (λac w ρ hh hr=>?_) hk
 have h3:=hr x
 have h4:=hr y
 rw[hx] at h3
 rw[hy] at h4
 obtain⟨g,v,e1,hv,hf⟩:=kS h3
 obtain⟨g',v',e2,hv',hf'⟩:=kS h4
 rw[hv] at hv'
 cases hv'
 have hgg:g'=g:=by
  rcases hf with rfl|⟨_,_,rfl⟩<;>rcases hf' with h|⟨_,_,h⟩<;>cases h<;>rfl
 subst hgg
 exact⟨_,iR ho (by rw[e1];exact wL) (by rw[e1,e2];exact run_neq_ptr_same w _ ht hj),.v _⟩
theorem Does.SY{s d e t0:Nat}{x:Operand}{id:Nat}{cells:List AV}{j:TypeInfo}(hg:o.guard=none)(ho:o.op=.convert s d x)(hs:P.underlying s=some (.pointer e))(hd:P.underlying d=some .unsafePointer)(hj:P.info? e=some j)(hj0:j.size≠0)(hx:ev T x=.ptr id 0)(h2:H id=some (.box t0 cells))(hc:cells≠[])(hk:K (.ptr id 0) H):Does P n ops o T H K:=by
 refine Does.val _ hg (λac w ρ hh hr=>?_) hk
 have h3:=hr x
 rw[hx] at h3
 obtain⟨g,vals,e1,hv,hgc,hrc⟩:=lX hh h2 h3
 refine⟨ac.eval x,?_,h3⟩
 have hl:0<vals.length:=by rw[<-hrc.1];exact List.length_pos_iff.2 hc
 have:=run_to_unsafe (P:=P) w (src:=s) (dst:=d) ⟨g,0,none⟩ hs hd hj hj0 (cells:=vals.length) (e:=t0) (by simp[World.shape?,hgc]) hl
 unfold execOp
 rw[ho]
 simp only[e1,Sem.run_bind,this,Result.andThen_ok,Sem.run_pure]
theorem Does.M4{s d e t0:Nat}{x:Operand}{id:Nat}{cells:List AV}{j:TypeInfo}(hg:o.guard=none)(ho:o.op=.convert s d x)(hs:P.underlying s=some .unsafePointer)(hd:P.underlying d=some (.pointer e))(hj:P.info? e=some j)(hl:liesAt P P.depth t0 (cells.length/P.cellsOf t0) 0 e 1=true)(hx:ev T x=.ptr id 0)(h2:H id=some (.box t0 cells))(hk:K (.ptr id 0) H):Does P n ops o T H K:=by
 refine Does.val _ hg (λac w ρ hh hr=>?_) hk
 have h3:=hr x
 rw[hx] at h3
 obtain⟨g,vals,e1,hv,hgc,hrc⟩:=lX hh h2 h3
 refine⟨ac.eval x,?_,h3⟩
 have:=run_from_unsafe (P:=P) w (src:=s) (dst:=d) ⟨g,0,none⟩ hs hd hj (cells:=vals.length) (e:=t0) (by simp[World.shape?,hgc]) (by rw[<-hrc.1];exact hl)
 unfold execOp
 rw[ho]
 simp only[e1,Sem.run_bind,this,Result.andThen_ok,Sem.run_pure]
theorem Does.Vd{f:Nat}{fn:Func}{cc x:Operand}{at_:Array TypeId}{u:AV}(hg:o.guard=none)(ho:o.op=.call {callee:=.value cc,args:= #[x],argTypes:=at_})(hf:P.funcs[f]? =some fn)(hname:(fn.name== "runtime.NumGoroutine")=false)(hb:fn.body.isNone=true)(hn:Extern.findNext fn=none)(he:Extern.find fn=some Extern.AbiNoEscape.same)
 (hc:ev T cc=.iF f []) (hx:ev T x=u) (hk:K u H):Does P n ops o T H K:=by
 refine Does.val _ hg (λac w ρ hh hr=>?_) hk
 have h3:=hr x
 have h4:=hr cc
 rw[hx] at h3
 rw[hc] at h4
 obtain⟨vs,hcv,hvs⟩:=Ea h4
 have U5:vs=[]:=List.eq_nil_of_length_eq_zero (by simpa using hvs.1.symm)
 subst U5
 refine⟨ac.eval x,?_,h3⟩
 have h8:=run_callFunc_extern (P:=P) hf hname hb hn he #[ac.eval x] w
 rw[run_noEscape] at h8
 unfold execOp
 rw[ho]
 generalize ac.eval=ev' at hcv h3 h8⊢
 simp only[resolve,Deferred.ofValue,hcv,invoke,Sem.run_bind,Sem.run_pure,Result.andThen_ok,List.map_toArray,List.map_cons,List.map_nil]
 simpa using h8
theorem eu.kill{ρ:ik}{w w':World}{id:Nat}{v:Value}{Xq:Ob}(h:eu ρ H w)(h0:H id=some Xq)(hr:ρ id=some v)(hos:w'.os=w.os)(EA:w'.tape=w.tape)(hout:w'.output=w.output)(hsize:w.heap.size<=w'.heap.size)(hch:∀k,k<w.heap.size->blk v≠some k->w'.heap[k]? =w.heap[k]?):
 eu ρ (set H id none) w'/\Ext ρ H w ρ (set H id none) w':=by
 have hsub:Sub (set H id none) H:=λi ob hi=>by
  by_cases hj:i=id
  ·subst hj;rw[set_self] at hi;cases hi
  ·rwa [dZ _ _ hj] at hi
 have e:Ext ρ H w ρ (set H id none) w':=⟨hos,EA,hout,hsize,λk hk hn=>hch k hk (λhe=>hn ⟨id,Xq,v,h0,hr,he⟩),λk hk=> .inl (JI hsub hk),λ_ _ h=>h⟩
 refine⟨⟨λi ob hi=>?_,λi i' o o' v v' k a b=>h.apart i i' o o' v v' k (hsub i o a) (hsub i' o' b),h.room,λi v k a b=>Nat.lt_of_lt_of_le (h.lt i v k a b) hsize⟩,e⟩
 have hi2:=hsub i ob hi
 have hne:i≠id:=λhe=>by subst he;rw[set_self] at hi;cases hi
 obtain⟨v',hv',ji⟩:=h.ob i ob hi2
 exact⟨v',hv',ji.ext e λk hk=>hch k (h.lt i v' k hv' hk) λhe=>hne (h.apart i id ob Xq v' v k hi2 h0 hv' hr hk he)⟩
theorem eu.below{ρ:ik}{w w':World}(h:eu ρ H w)(hb:Below w.heap.size w w'):eu ρ H w'/\Ext ρ H w ρ H w':=by
 have e:Ext ρ H w ρ H w':=⟨hb.os,hb.tape,hb.output,hb.size,λk hk _=>hb.block k hk,λk hk=> .inl hk,λ_ _ h=>h⟩
 exact⟨⟨λi ob hi=>by
  obtain⟨v,hv,ji⟩:=h.ob i ob hi
  exact⟨v,hv,ji.ext e λk hk=>hb.block k (h.lt i v k hv hk)⟩,h.apart,h.room,λi v k a b=>Nat.lt_of_lt_of_le (h.lt i v k a b) hb.size⟩,e⟩
theorem Pm{a:Act}{w w':World}{x:Operand}{t:TypeId}{v':Value}(ho:o.op=.call {callee:=.builtin .unsafeSliceData,args:= #[x],argTypes:= #[t]})
 (h:(Builtin.unsafeSliceData_ #[t] o.type #[a.eval x]).run P w=.ok v' w'):(execOp a.eval o).run P w=.ok (.value v') w':=by
 unfold execOp
 rw[ho]
 simp only[resolve,List.map_toArray,List.map_cons,List.map_nil,Sem.run_bind,Sem.run_pure,Result.andThen_ok,invoke,builtin,h]
theorem Pn{a:Act}{w w':World}{x y:Operand}{t t':TypeId}{v':Value}(ho:o.op=.call {callee:=.builtin .unsafeString,args:= #[x,y],argTypes:= #[t,t']})
 (h:(Builtin.unsafeString_ #[t,t'] o.type #[a.eval x,a.eval y]).run P w=.ok v' w'):(execOp a.eval o).run P w=.ok (.value v') w':=by
 unfold execOp
 rw[ho]
 simp only[resolve,List.map_toArray,List.map_cons,List.map_nil,Sem.run_bind,Sem.run_pure,Result.andThen_ok,invoke,builtin,h]
theorem Does.sliceData{t e sz:Nat}{x:Operand}{id len:Nat}{rows:List (List AV)}(hg:o.guard=none)(ho:o.op=.call {callee:=.builtin .unsafeSliceData,args:= #[x],argTypes:= #[t]})(hx:ev T x=.own id 0 len sz)(h2:H id=some (.row e sz rows))(hl:0<len)(hk:K (.ptr id 0) H):Does P n ops o T H K:=by
 refine Does.val _ hg (λac w ρ hh hr=>?_) hk
 have h3:=hr x
 rw[hx] at h3
 obtain⟨g,cap,cur,inner,q1,q2,q3,q4,_⟩:=JS hh h2 h3 hl
 rw[Nat.zero_mul,Nat.sub_zero] at q2
 refine⟨.pointer (some ⟨g,0,none⟩),Pm ho ?_,.ptr id 0 g _ q1 (.inr ⟨_,_,rfl⟩)⟩
 rw[q2]
 exact run_unsafeSliceData_row w _ _ _ _ _ (by omega)
theorem Does.unsafeString{t t' e:Nat}{x y:Operand}{id len:Nat}{s:ByteArray}(hg:o.guard=none)(ho:o.op=.call {callee:=.builtin .unsafeString,args:= #[x,y],argTypes:= #[t,t']})(ht:P.underlying t=some (.pointer e))(hce:P.cellsOf e=1)(hx:ev T x=.ptr id 0)(hy:ev T y=.v (.int .i64 (len:Int)))(h2:H id=some (.row e 1 (bN s)))(hl:0<len)(hls:len=s.size)
 (hk:K (.v (.string s)) (set H id none)):Does P n ops o T H K:=by
 subst hls
 intro a w ρ h1 hd h3 h4 N Q hN
 rw[if_pos (by simp[Region.wanted,hg])]
 have h5:=iH h4 x
 have h6:=iH h4 y
 rw[hx] at h5
 rw[hy] at h6
 obtain⟨g,v,e1,hv,hf⟩:=kS h5
 obtain⟨v0,hv0,hz,inner,how,hrl,hc⟩:=h3.ob _ _ h2
 rw[hv0] at hv
 cases hv
 rw[gy] at how
 rcases how.2 with ⟨h7,h8⟩|⟨g',cap,cur,h7,_,hg',h8,h9,h10,h11⟩
 ·omega
 subst h7
 have hgg:g'=g:=by rcases hf with h|⟨_,_,h⟩<;>cases h;rfl
 subst hgg
 have hdl:s.data.toList.length=s.size:=oq s
 have hin:inner=strCells s:=by
  have h12:=hc.1
  rw[uB,List.length_map] at h12
  refine List.ext_getElem? λj=>?_
  by_cases hj:j<s.data.toList.length
  ·have h13:=(hc.2 j (.v (.int .u8 (s.data.toList[j]).toNat)) (inner[j]'(by omega)) (by rw[uB,List.getElem?_map,List.getElem?_eq_getElem hj];rfl) (List.getElem?_eq_getElem (by omega))).1
   rw[List.getElem?_eq_getElem (by omega),aV h13,strCells,List.getElem?_map,List.getElem?_eq_getElem hj];rfl
  ·rw[List.getElem?_eq_none (by omega),List.getElem?_eq_none (by rw[strCells_length];omega)]
 have hcell:∀j (b:UInt8),s.data.toList[j]? =some b->w.cell? ((⟨g',0,none⟩:Addr).add j)=some (.int .u8 b.toNat):=by
  intro j b hb
  have hj:=(List.getElem?_eq_some_iff.1 hb).1
  have h14:cur.toList[j]? =some (.int .u8 b.toNat):=by
   have:(cur.toList.take (s.size*1))[j]? =some (.int .u8 b.toNat):=by rw[h11,hin,strCells,List.getElem?_map,hb];rfl
   rw[List.getElem?_take,if_pos (by omega)] at this
   exact this
  rw[add_plain,Nat.zero_add]
  simp only[World.cell?,hg']
  simpa using h14
 have hrun:=run_unsafeString_row (P:=P) w t t' o.type e ht hce g' cur.size (by simp[World.shape?,hg']) s.data.toList (by intro h;rw[h] at hdl;simp at hdl;omega) (by rw[hdl];omega) (by rw[hdl];simp only[maxLen] at h9;omega) hcell
 rw[hdl] at hrun
 have hs':(⟨s.data.toList.toArray⟩:ByteArray)=s:=by rw[Array.toArray_toList]
 rw[hs'] at hrun
 unfold Oper.wp
 rw[Pn ho (by rw[e1,aV h6];exact hrun)]
 have hfz:∀k,k≠g'->(w.freeze ⟨g',0,none⟩ s.size).heap[k]? =w.heap[k]? :=λk hk=>by
  unfold World.freeze
  split
  ·rfl
  ·simp only[Array.getElem?_modify]
   rw[if_neg (λh=>hk h.symm)]
 have hw:=h3.kill (w':=w.freeze ⟨g',0,none⟩ s.size) h2 hv0 (by unfold World.freeze;split<;>rfl) (by unfold World.freeze;split<;>rfl) (by unfold World.freeze;split<;>rfl) (by unfold World.freeze;split<;>simp) (λk hk hn=>hfz k (λh=>hn (by simp[blk,h])))
 exact hN _ _ ρ _ _ hw.1 hw.2 (.v _) hk
theorem E8{s:ByteArray}{j:Nat}(hj:j<s.size):(bN s)[j]? =some [.v (.int .u8 (s.data.toList[j]'(by rw[oq];exact hj)).toNat)]:=by
 unfold bN
 rw[List.getElem?_map,List.getElem?_eq_getElem (by rw[oq];exact hj)];rfl
theorem Does.S9{t t2 e:Nat}{x:Operand}{s:ByteArray}(hg:o.guard=none)(ho:o.op=.convert t t2 x)(ht:P.underlying t=some (.slice e))(he:P.underlying e=some (.int .u8))(hd:P.underlying t2=some .string)(hx:ev T x=.sl (bN s))(hk:K (.v (.string s)) H):Does P n ops o T H K:=by
 refine Does.val _ hg (λac w ρ hh hr=>⟨.string s,?_,.v _⟩) hk
 have h3:=hr x
 rw[hx] at h3
 have hdl:s.data.toList.length=s.size:=oq s
 have key:(convert t t2 (ac.eval x)).run P w=.ok (.string s) w:=by
  generalize hrows:bN s=rows at h3
  generalize ac.eval x=z at h3
  cases h3 with
  |nil=>
   have h0:s.size=0:=by rw[<-gy,hrows];rfl
   have:=run_convert_bytes_nil (P:=P) w t e ht he 0 0 t2 hd
   rw[this]
   congr 2
   exact ByteArray.ext (by
    have:s.data.size=0:=h0
    have h1:s.data= #[]:=Array.eq_empty_of_size_eq_zero this
    rw[h1];rfl)
  |sl _ a cap sz vals hcap hmax hok hsz hc hr2=>
   have hl2:rows.length=s.data.toList.length:=by rw[<-hrows,gy,hdl]
   rw[hl2]
   have:=run_convert_bytes_back (P:=P) w t t2 e a cap s.data.toList ht he hd (λj hj=>by
    have hjs:j<s.size:=by omega
    have hrj:=E8 hjs
    rw[hrows] at hrj
    obtain⟨h4,_⟩:=hc j _ 0 hrj (by simp)
    have h5:=hr2 j _ 0 _ hrj U
    have hsz1:sz=1:=by have:=hsz _ (List.mem_of_getElem? hrj);simpa using this.symm
    subst hsz1
    rw[Nat.mul_one,Nat.add_zero] at h4
    exact h4.trans (congrArg some (aV h5)))
   rw[this,Array.toArray_toList]
 unfold execOp
 rw[ho]
 simp only[Sem.run_bind,key,Result.andThen_ok,Sem.run_pure]
theorem Does.Ta{t t2 e:Nat}{x:Operand}{s:ByteArray}(hg:o.guard=none)(ho:o.op=.convert t t2 x)(ht:P.underlying t=some .string)(hd:P.underlying t2=some (.slice e))(he:P.underlying e=some (.int .u8))(hx:ev T x=.v (.string s))(hm:s.size<=140737488355328)(hk:K (.sl (bN s)) H):Does P n ops o T H K:=by
 intro a w ρ h1 hd0 h3 h4 N Q hN
 rw[if_pos (by simp[Region.wanted,hg])]
 have h5:=iH h4 x
 rw[hx] at h5
 have hb:Below w.heap.size w (bytesWorld w e s):=⟨by unfold bytesWorld World.freeze;split<;>rfl,by unfold bytesWorld World.freeze;split<;>rfl,by unfold bytesWorld World.freeze;split<;>rfl,by rw[bytesWorld_size];omega,λk hk=>bytesWorld_at_old w e s k hk⟩
 obtain⟨hh,hx2⟩:=h3.below hb
 have hge:=grownCap_ge w s.size 0 e
 have hmx:grownCap w s.size 0 e<=maxLen:=grownCap_le_maxLen w s.size 0 e (by simp only[maxLen];omega)
 have hrep:eF (bF ρ H) ρ (bytesWorld w e s) (.sl (bN s)) (.slice (some ⟨w.heap.size,0,none⟩) s.size (grownCap w s.size 0 e)):=by
  have:=eF.sl (ok:=bF ρ H) (ρ:=ρ) (w:=bytesWorld w e s) (bN s) ⟨w.heap.size,0,none⟩ (grownCap w s.size 0 e) 1 (λi _=> .int .u8 (s.data.toList.getD i 0).toNat) (by rw[gy];exact hge) hmx
   (λ_=>⟨λ⟨i,ob,v,a,b,c⟩=>by have:=h3.lt i v _ b c;simp at this,by rw[bytesWorld_size];simp⟩) (y7 s) (λi cs j hi hj=>by
     have hi2:i<s.size:=by rw[<-gy];exact(List.getElem?_eq_some_iff.1 hi).1
     have hj0:j=0:=by have:=y7 s cs (List.mem_of_getElem? hi);omega
     subst hj0
     rw[add_plain,Nat.zero_add,Nat.mul_one,Nat.add_zero]
     exact⟨bytesWorld_cell w e s i hi2,rfl⟩) (λi cs j u hi hj=>by
     have hi2:i<s.size:=by rw[<-gy];exact(List.getElem?_eq_some_iff.1 hi).1
     rw[E8 hi2] at hi
     cases hi
     match j with
     |0=>
      cases hj
      have hil:i<s.data.toList.length:=by rw[oq];exact hi2
      rw[List.getD_eq_getElem?_getD,List.getElem?_eq_getElem hil]
      exact .v _
     |j+1=>simp at hj)
  rwa [gy] at this
 have hrun:=Go.Lib.run_convert_string_bytes (P:=P) w t t2 e s ht hd he
 have e1:=aV h5
 unfold Oper.wp
 have:(execOp a.eval o).run P w=.ok (.value (.slice (some ⟨w.heap.size,0,none⟩) s.size (grownCap w s.size 0 e))) (bytesWorld w e s):=by
  unfold execOp
  rw[ho]
  simp only[e1,Sem.run_bind,hrun,Result.andThen_ok,Sem.run_pure]
 rw[this]
 exact hN _ _ ρ _ _ hh hx2 hrep hk
theorem au.wM{f:Nat}{us:List AV}{r:Value}(hb:JJ P f)(h:∀ρ w vals,eu ρ H w->MH (bF ρ H) ρ w us vals->Calls P f vals.toArray w λe w'=>e=.returned r/\Below w.heap.size w w'):au P f us H (bB H (.v r)):=
 ⟨hb,λρ w vals hh hr=>(h ρ w vals hh hr).mono λe w' ⟨he,hbl⟩=>by
   obtain⟨h1,h2⟩:=hh.below hbl
   exact⟨r,ρ,.v r,H,he,h1,h2,.v _,rfl,rfl⟩⟩
theorem eu.raw{ρ:ik}{w:World}{id g:Nat}{x:Obj}(h:eu ρ H w)(h0:H id=some (.raw g x)):w.heap[g]? =some x:=by
 obtain⟨v,_,ji⟩:=h.ob _ _ h0
 exact ji.2.2.1
end
section
variable {P:Program} {n:Nat} {ops:Array Oper} {H0:Hp} {l:List (Nat×AV)} {I aM:List (Nat×Ob)} {dst:Option Nat} {ty:TypeId} {ps:String} {af:Array Edge} {x y:Operand} {u r:AV} {t t2 t' e sz id off len k:Nat} {cells us:List AV} {rows:List (List AV)} {s str:ByteArray} {K:AV->List (Nat×Ob)->Prop}
theorem Z.oZ(hx:aW l x=some (.ptr id off)):QS P n ops H0 ⟨dst,.nilCheck x,ty,ps,af,none⟩ l I (.ptr id off):=λ_=>Does.nilCheck U U (aG hx) ⟨rfl,rfl⟩
theorem Z.pnt(ht:P.underlying t=some (.pointer e))(hx:aW l x=some (.v (.pointer none))):QS P n ops H0 ⟨dst,.binOp .eql t x (.const (.pointer none)) t2,ty,ps,af,none⟩ l I (.v (.bool true)):=λ_=>Does.XC U U ht (aG hx) ⟨rfl,rfl⟩
theorem Z.pnf(ht:P.underlying t=some (.pointer e))(hx:aW l x=some (.ptr id off)):QS P n ops H0 ⟨dst,.binOp .eql t x (.const (.pointer none)) t2,ty,ps,af,none⟩ l I (.v (.bool false)):=λ_=>Does.XD U U ht (aG hx) ⟨rfl,rfl⟩
theorem Z.pne(ht:P.underlying t=some (.pointer e))(hx:aW l x=some (.ptr id off))(hy:aW l y=some (.ptr id off))(hj:(P.info? e).isSome=true:=by kernel_rfl):QS P n ops H0 ⟨dst,.binOp .neq t x y t2,ty,ps,af,none⟩ l I (.v (.bool false)):=by
 obtain⟨j,hj⟩:=Option.isSome_iff_exists.1 hj
 exactλ_=>Does.XE U U ht hj (aG hx) (aG hy) ⟨rfl,rfl⟩
theorem Z.tou{t0:Nat}(k:Nat)(hs:P.underlying t=some (.pointer e))(hd:P.underlying t2=some .unsafePointer)(hx:aW l x=some (.ptr id 0))(h2:I[k]? =some (id,.box t0 cells))(hc:cells≠[])(hj:(P.info? e).any (·.size !=0)=true:=by kernel_rfl):QS P n ops H0 ⟨dst,.convert t t2 x,ty,ps,af,none⟩ l I (.ptr id 0):=by
 cases hi:P.info? e with
 |none=>rw[hi] at hj;cases hj
 |some j=>
  rw[hi] at hj
  exactλhd0=>Does.SY U U hs hd hi (by simpa using hj) (aG hx) (hd0.at_ h2) hc ⟨rfl,rfl⟩
theorem Z.fru{t0 m:Nat}(k:Nat)(hs:P.underlying t=some .unsafePointer)(hd:P.underlying t2=some (.pointer e))(hx:aW l x=some (.ptr id 0))(h2:I[k]? =some (id,.box t0 cells))(hm:cells.length=m)(hl:liesAt P P.depth t0 (m/P.cellsOf t0) 0 e 1=true:=by kernel_rfl)(hj:(P.info? e).isSome=true:=by kernel_rfl):QS P n ops H0 ⟨dst,.convert t t2 x,ty,ps,af,none⟩ l I (.ptr id 0):=by
 subst hm
 obtain⟨j,hj⟩:=Option.isSome_iff_exists.1 hj
 exactλhd0=>Does.M4 U U hs hd hj hl (aG hx) (hd0.at_ h2) ⟨rfl,rfl⟩
theorem Z.nox{f:Nat}{fn:Func}{cc:Operand}{at_:Array TypeId}(hf:P.funcs[f]? =some fn)(hc:aW l cc=some (.iF f []))(hx:aW l x=some u)(hname:(fn.name== "runtime.NumGoroutine")=false:=by kernel_rfl)(hb:fn.body.isNone=true:=by kernel_rfl)(hn:Extern.findNext fn=none:=by kernel_rfl)(he:Extern.find fn=some Extern.AbiNoEscape.same:=by kernel_rfl):QS P n ops H0 ⟨dst,.call {callee:=.value cc,args:= #[x],argTypes:=at_},ty,ps,af,none⟩ l I u:=λ_=>Does.Vd U U hf hname hb hn he (aG hc) (aG hx) ⟨rfl,rfl⟩
theorem D.aps(k:Nat)(ht:kg P t e 1 1)(hz8:(P.info? e).map (·.zero)=some (some (.int .u8 0)))(hu:P.underlying t'=some .string)(hs:aW l y=some (.own id 0 len 1))(h2:I[k]? =some (id,.row e 1 rows))(hle:len<=rows.length)(hx:aW l x=some (.v (.string str)))(hb:len+str.size<=140737488355328){rws:List (List AV)}(hr:rows.take len++bN str=rws)
 (hk:∀id',K (.own id' 0 (len+str.size) 1) ((id',.row e 1 rws)::I.eraseIdx k)):DS P n ops H0 ⟨dst,.call {callee:=.builtin .append,args:= #[y,x],argTypes:= #[t,t']},ty,ps,af,none⟩ l I K:=
 λay=>by
  subst hr
  have qg:=ay.kill h2
  refine Does.Pk U U ht hz8 hu (aG hs) (ay.at_ h2) hle (aG hx) hb λid' hid=>⟨(id',.row e 1 (rows.take len++bN str))::I.eraseIdx k,?_,?_,hk id'⟩
  ·rw[qg.1];rfl
  ·have hne:id'≠id:=λhe=>by rw[he,ay.at_ h2] at hid;cases hid
   exact .cons (by rw[<-qg.1,dZ _ _ hne];exact hid) qg.2
theorem Z.usd(k:Nat)(hx:aW l x=some (.own id 0 len sz))(h2:I[k]? =some (id,.row e sz rows))(hl:0<len):QS P n ops H0 ⟨dst,.call {callee:=.builtin .unsafeSliceData,args:= #[x],argTypes:= #[t]},ty,ps,af,none⟩ l I (.ptr id 0):=λhd=>Does.sliceData U U (aG hx) (hd.at_ h2) hl ⟨rfl,rfl⟩
theorem D.ust(k:Nat)(ht:P.underlying t=some (.pointer e))(hce:P.cellsOf e=1)(hx:aW l x=some (.ptr id 0))(hy:aW l y=some (.v (.int .i64 (len:Int))))(h2:I[k]? =some (id,.row e 1 (bN s)))(hl:0<len)(hls:len=s.size)(hk:K (.v (.string s)) (I.eraseIdx k)):DS P n ops H0 ⟨dst,.call {callee:=.builtin .unsafeString,args:= #[x,y],argTypes:= #[t,t']},ty,ps,af,none⟩ l I K:=
 λay=>Does.unsafeString U U ht hce (aG hx) (aG hy) (ay.at_ h2) hl hls ⟨_,(ay.kill h2).1,(ay.kill h2).2,hk⟩
theorem Z.b2s(ht:P.underlying t=some (.slice e))(he:P.underlying e=some (.int .u8))(hd:P.underlying t2=some .string)(hx:aW l x=some (.sl (bN s))):QS P n ops H0 ⟨dst,.convert t t2 x,ty,ps,af,none⟩ l I (.v (.string s)):=λ_=>Does.S9 U U ht he hd (aG hx) ⟨rfl,rfl⟩
theorem Z.s2b(ht:P.underlying t=some .string)(hd:P.underlying t2=some (.slice e))(he:P.underlying e=some (.int .u8))(hx:aW l x=some (.v (.string s)))(hm:s.size<=140737488355328):QS P n ops H0 ⟨dst,.convert t t2 x,ty,ps,af,none⟩ l I (.sl (bN s)):=λ_=>Does.Ta U U ht hd he (aG hx) hm ⟨rfl,rfl⟩
theorem D.alp{zs:List Value}{zv:Value}(hz:(P.info? e).map (·.zero)=some (some zv))(hzs:zv.cells.toList=zs)(hv:vals zs=some us)(hk:∀id,K (.ptr id 0) ((id,.box e us)::I))(hc:zs.all (·.oneCell')=true:=by rfl):DS P n ops H0 ⟨dst,.alloc e,ty,ps,af,none⟩ l I K:=by
 subst hzs
 exactλhd=>Does.alloc U U hz hc λid hid=>⟨(id,.box e us)::I,by rw[<-rG hv];rfl,.cons hid hd,hk id⟩
end
end
end Go.iG
end
section
namespace Go.Proofs.YtonpfomjoiaacaaGreatDoor
open Go Go.iG Go.RowKit
theorem RG:eQ Tryz.prog 139=some (false,1):=by kernel_rfl
theorem E9:eQ Tryz.prog 169=some (false,1):=by kernel_rfl
theorem jo:eQ Tryz.prog 108=some (false,1):=by kernel_rfl
theorem jQ:eQ Tryz.prog 203=some (false,1):=by kernel_rfl
theorem Di:eQ Tryz.prog 205=some (true,8):=by kernel_rfl
theorem Ve:eQ Tryz.prog 107=some (false,1):=by kernel_rfl
theorem ty207:eQ Tryz.prog 207=some (true,10):=by kernel_rfl
theorem M5:eQ Tryz.prog 243=some (true,64):=by kernel_rfl
theorem jg:lu Tryz.prog 109=some (108,1,4):=by kernel_rfl
theorem M6:lu Tryz.prog 241=some (22,1,24):=by kernel_rfl
theorem sl247:lu Tryz.prog 247=some (203,1,4):=by kernel_rfl
theorem z22:(Tryz.prog.info? 22).map (·.zero)=some (some (.slice none 0 0)):=by kernel_rfl
theorem z23:(Tryz.prog.info? 23).map (·.zero)=some (some (.slice none 0 0)):=by kernel_rfl
theorem z141:(Tryz.prog.info? 141).map (·.zero)=some (some (.agg #[.pointer none,.slice none 0 0])):=by kernel_rfl
theorem z108:(Tryz.prog.info? 108).map (·.zero)=some (some (.int .u32 0)):=by kernel_rfl
theorem XF:(Tryz.prog.info? 205).map (·.zero)=some (some (.agg #[.int .u32 0,.int .u32 0,.int .u32 0,.int .u32 0,.int .u32 0,.int .u32 0,.int .u32 0,.int .u32 0])):=by kernel_rfl
theorem z207:(Tryz.prog.info? 207).map (·.zero)=some (some (.agg #[.int .u32 0,.int .u32 0,.int .u32 0,.int .u32 0,.int .u32 0,.int .u32 0,.int .u32 0,.int .u32 0,.slice none 0 0,.int .u64 0])):=by kernel_rfl
theorem Vf:(Tryz.prog.info? 243).map (·.zero)=some (some (.agg #[.int .u32 0,.int .u32 0,.int .u32 0,.int .u32 0,.int .u32 0,.int .u32 0,.int .u32 0,.int .u32 0,.int .u32 0,.int .u32 0,.int .u32 0,.int .u32 0,.int .u32 0,.int .u32 0,.int .u32 0,.int .u32 0,.int .u32 0,.int .u32 0,.int .u32 0,.int .u32 0,.int .u32 0,.int .u32 0,.int .u32 0,.int .u32 0,.int .u32 0,.int .u32 0,.int .u32 0,.int .u32 0,.int .u32 0,.int .u32 0,.int .u32 0,.int .u32 0,.int .u32 0,.int .u32 0,.int .u32 0,.int .u32 0,.int .u32 0,.int .u32 0,.int .u32 0,.int .u32 0,.int .u32 0,.int .u32 0,.int .u32 0,.int .u32 0,.int .u32 0,.int .u32 0,.int .u32 0,.int .u32 0,.int .u32 0,.int .u32 0,.int .u32 0,.int .u32 0,.int .u32 0,.int .u32 0,.int .u32 0,.int .u32 0,.int .u32 0,.int .u32 0,.int .u32 0,.int .u32 0,.int .u32 0,.int .u32 0,.int .u32 0,.int .u32 0])):=by kernel_rfl
theorem wN:kg Tryz.prog 109 108 1 4:=⟨jg,⟨_,z108,rfl,rfl⟩,by decide,by decide⟩
theorem row241:kg Tryz.prog 241 22 1 24:=⟨M6,⟨_,z22,rfl,rfl⟩,by decide,by decide⟩
theorem JX:dP Tryz.prog 141 0=some 0:=by kernel_rfl
theorem Cc:dP Tryz.prog 141 1=some 1:=by kernel_rfl
theorem Po:dP Tryz.prog 207 0=some 0:=by kernel_rfl
theorem Pp:dP Tryz.prog 207 1=some 8:=by kernel_rfl
theorem Pq:dP Tryz.prog 207 2=some 9:=by kernel_rfl
theorem bt207:oJ Tryz.prog 207=some ([.int .u32 0,.int .u32 0,.int .u32 0,.int .u32 0,.int .u32 0,.int .u32 0,.int .u32 0,.int .u32 0,.slice none 0 0,.int .u64 0],[(0,8),(8,1),(9,1)]):=by kernel_rfl
def aN(c:Int):ByteArray:=⟨#[UInt8.ofNat c.toNat]⟩
theorem wO(a b:ByteArray):bN (a++b)=bN a++bN b:=by
 unfold bN
 rw[<-List.map_append]
 congr 1
theorem aU(c:Int):(aN c).size=1:=rfl
theorem o8{c:Int}(h0:0<=c)(h1:c<256):bN (aN c)=[[.v (.int .u8 c)]]:=by
 unfold bN aN
 simp only[List.map_cons,List.map_nil]
 have e:(((UInt8.ofNat c.toNat).toNat:Nat):Int)=c:=by
  rw[UInt8.toNat_ofNat',Nat.mod_eq_of_lt (by omega)];omega
 rw[e]
theorem bf(a b:ByteArray):(a++b).size=a.size+b.size:=by simp
def xV(p r:Nat)(a:AV)(s:ByteArray):List (Nat×Ob):=[(r,.row 5 1 (bN s)),(p,.box 141 [a,.own r 0 s.size 1])]
def Adr(p:Nat)(a:AV):Prop:=a=.v (.pointer none)\/a=.ptr p 0
def BldR(p:Nat)(s:ByteArray)(u v:AV)(news:List (Nat×Ob)):Prop:=v=u/\∃r,news=xV p r (.ptr p 0) s
theorem wP(p r:Nat)(a:AV)(ha:Adr p a)(s:ByteArray)(G:Hp)(hd:aP G (xV p r a s)):au Tryz.prog 188 [.ptr p 0] (aD G (xV p r a s)) (λu H'=>∃news,aP G news/\H'=aD G news/\(u=.kX []/\news=xV p r (.ptr p 0) s)):=by
 unfold xV at hd⊢
 have hd2:aP G [(r,.row 5 1 (bN s)),(p,.box 141 [.ptr p 0,.own r 0 s.size 1])]:=hd.ku (k:=1) _ U|>.2
 rcases ha with rfl|rfl
 ·refine aF (n:=20) (H0:=G) (I:=[(r,.row 5 1 (bN s)),(p,.box 141 [.v (.pointer none),.own r 0 s.size 1])]) Tryz.func188 (by kernel_rfl) U (by rw[Tryz.ntmps188];rfl) hd<|?_
  refine Q.rg<|Q.mv U<|S.qu (Z.oZ U)<|Q.fa JX U<|Q.lc 1 RG U U U<|S.qu (Z.pnt Tryz.underlying139 U)<|Q.nt<|S.cT U U<|S.rg<|Q.mv U<|Q.mv U<|S.qu (Z.tou 1 Tryz.underlying139 Tryz.underlying216 U U (by simp))<|?_
  refine S.qu (Z.nox Tryz.func229 U U)<|S.qu (Z.fru 1 Tryz.underlying216 Tryz.underlying139 U U U)<|S.qu (Z.oZ U)<|Q.fa JX U<|S.s<|D.st 1 RG U U U U U U U U λ_=>US.nil<|?_
  exact retN [_,_] (λ_=>MO U) (.refl _) λhd=>⟨_,hd,rfl,rfl,rfl⟩
 ·refine aF (n:=20) (H0:=G) (I:=[(r,.row 5 1 (bN s)),(p,.box 141 [.ptr p 0,.own r 0 s.size 1])]) Tryz.func188 (by kernel_rfl) U (by rw[Tryz.ntmps188];rfl) hd<|?_
  refine Q.rg<|Q.mv U<|S.qu (Z.oZ U)<|Q.fa JX U<|Q.lc 1 RG U U U<|S.qu (Z.pnf Tryz.underlying139 U)<|Q.nt<|S.cF U U<|Q.rg<|Q.mv U<|S.qu (Z.oZ U)<|Q.fa JX U<|Q.lc 1 RG U U U<|Q.mv U<|S.qu (Z.pne Tryz.underlying139 U U)<|Q.nt<|S.cF U U<|UW.skip<|?_
  exact retN [_,_] (λ_=>MO U) (.refl _) λhd=>⟨_,hd,rfl,rfl,rfl⟩
theorem qo(p r:Nat)(a:AV)(ha:Adr p a)(s:ByteArray)(hs:s.size<=100000000000000)(c:Int)(h0:0<=c)(h1:c<256)(G:Hp)(hd:aP G (xV p r a s)):au Tryz.prog 141 [.ptr p 0,.v (.int .u8 c)] (aD G (xV p r a s)) (λu H'=>∃news,aP G news/\H'=aD G news/\BldR p (s++aN c) (.v .nilIface) u news):=by
 have hcc:=λG hd=>wP p r a ha s G hd
 have hl:=gy s
 have hrw:(bN s).take s.size++[[.v (.int .u8 c)]]=bN (s++aN c):=by rw[wO,o8 h0 h1,List.take_of_length_le (by omega)]
 have hsz:s.size+1=(s++aN c).size:=by rw[bf,aU]
 unfold xV at hd hcc⊢
 refine aF (n:=17) (H0:=G) (I:=[(r,.row 5 1 (bN s)),(p,.box 141 [a,.own r 0 s.size 1])]) Tryz.func141 (by kernel_rfl) U (by rw[Tryz.ntmps141];rfl) hd<|?_
 refine Q.rg<|Q.as U<|Q.nt<|Q.rg<|Q.mv U<|S.dd<|D.co (.cons 0 U (.cons 0 U .nil)) U U (λG hD=>hcc G hD)<|?_
 rintro _ _ ⟨rfl,rfl⟩
 refine Q.nt<|Q.rg<|Q.mv U<|Q.mv U<|S.qu (Z.oZ U)<|Q.fa Cc U<|Q.lc 1 ET U U U<|Q.mv U<|S.qu (Z.bl je U U (bz U))<|S.dd<|D.ap 0 je U U (by omega) U (.sl (kz U)) (by first|omega|(simp;omega)) hrw λMx=>?_
 refine S.qu (Z.oZ U)<|Q.fa Cc U<|S.s<|D.st 1 ET U U U U U U U U λ_=>Q.nt<|Q.rg<|Q.as U<|Q.nt<|UW.ret<|?_
 exact bR [_,_] (λ_=>ak U U) (.refl _) λhd=>⟨_,hd,rfl,rfl,_,by unfold xV;rw[<-hsz];rfl⟩
theorem Ce(p r:Nat)(a:AV)(ha:Adr p a)(s:ByteArray)(hs:s.size<=100000000000000)(t:ByteArray)(ht:t.size<=10000000000000)(G:Hp)(hd:aP G (xV p r a s)):au Tryz.prog 143 [.ptr p 0,.v (.string t)] (aD G (xV p r a s)) (λu H'=>∃news,aP G news/\H'=aD G news/\BldR p (s++t) (.kX [.v (.int .i64 (t.size:Int)),.v .nilIface]) u news):=by
 have hcc:=λG hd=>wP p r a ha s G hd
 have hl:=gy s
 have hrw:(bN s).take s.size++bN t=bN (s++t):=by rw[wO,List.take_of_length_le (by omega)]
 have hsz:s.size+t.size=(s++t).size:=by rw[bf]
 unfold xV at hd hcc⊢
 refine aF (n:=19) (H0:=G) (I:=[(r,.row 5 1 (bN s)),(p,.box 141 [a,.own r 0 s.size 1])]) Tryz.func143 (by kernel_rfl) U (by rw[Tryz.ntmps143];rfl) hd<|?_
 refine Q.rg<|Q.as U<|Q.as U<|Q.nt<|Q.rg<|Q.mv U<|S.dd<|D.co (.cons 0 U (.cons 0 U .nil)) U U (λG hD=>hcc G hD)<|?_
 rintro _ _ ⟨rfl,rfl⟩
 refine Q.nt<|Q.rg<|Q.mv U<|Q.mv U<|S.qu (Z.oZ U)<|Q.fa Cc U<|Q.lc 1 ET U U U<|Q.mv U<|S.dd<|D.aps 0 je z5 Tryz.underlying9 U U (by omega) U (by omega) hrw λMx=>S.qu (Z.oZ U)<|Q.fa Cc U<|S.s<|D.st 1 ET U U U U U U U U λ_=>Q.nt<|Q.rg<|Q.mv U<|S.qu (Z.wm Tryz.underlying9 U)<|Q.as U<|Q.as U<|Q.nt<|UW.ret<|?_
 exact bR [_,_] (λhd=>gF U (bJ U) (bJ U)) (.refl _) λhd=>⟨_,hd,rfl,rfl,_,by unfold xV;rw[<-hsz]⟩
theorem wQ(p r:Nat)(a:AV)(s:ByteArray)(hs:0<s.size)(hm:s.size<=100000000000000)(G:Hp)(hd:aP G (xV p r a s)):au Tryz.prog 144 [.ptr p 0] (aD G (xV p r a s)) (λu H'=>∃news,aP G news/\H'=aD G news/\(u=.v (.string s)/\news=[])):=by
 have hl:=gy s
 unfold xV at hd⊢
 refine aF (n:=14) (H0:=G) (I:=[(r,.row 5 1 (bN s)),(p,.box 141 [a,.own r 0 s.size 1])]) Tryz.func144 (by kernel_rfl) U (by rw[Tryz.ntmps144];rfl) hd<|?_
 refine Q.rg<|Q.as U<|Q.nt<|S.sq<|?_
 refine' UW.rO (by kernel_rfl) [1] [0,1,3,7,15,0,32,96,224,480,1023,2047] [some 3,some 4,some 5,some 6,none,some 8,some 9,some 10,some 11,some 12,none,none] [some (3,_),some (4,_),some (5,_),some (6,_),none,some (8,_),some (9,_),some (10,_),some (11,_),some (12,_),none,none] [4,10,11] [3] U (by decide) (by decide) (M.free (by decide) U U ?nA (M.free (by decide) U U ?nC (M.free (by decide) U U ?nD (M.held (by decide) U U ?nE (M.skip (M.free (by decide) U U ?qp (M.free (by decide) U U ?qw (M.free (by decide) U U ?qx (M.kept (by decide) U U ?y8 (M.free (by decide) U U ?y9 (M.skip (M.skip M.nil)))))))))))) ?Cf
 case nA=>(intro _;exact Z.mv rfl)
 case nC=>(intro _;exact Z.oZ rfl)
 case nD=>(intro _;exact Z.fa Cc rfl)
 case nE=>exact Z.dM 1 ET rfl rfl rfl
 case qp=>(intro _;exact Z.mv rfl)
 case qw=>(intro _;exact Z.oZ rfl)
 case qx=>(intro _;exact Z.fa Cc rfl)
 case y8=>(intro _ hK;exact Z.kc 0 hK ET rfl rfl rfl)
 case y9=>(intro _;exact Z.OX cK rfl)
 refine CH.cons U U (by decide) ?_ (.c 1 U .n)
 refine D.qu (Z.usd 0 U U (by omega))<|?_
 refine CH.cons U U (by decide) ?_ (.c 1 U .n)
 refine D.ust 0 Tryz.underlying181 (by kernel_rfl) U U U (by omega) (by omega)<|?_
 refine CH.cons U U (by decide) ?_ (.c 0 U .n)
 refine D.qu (Z.as U)<|?_
 refine CH.nil ?_ (.c 0 U .n)
 simp only[app,bS]
 refine UQ.then<|UW.ret<|?_
 exact bR [] (λ_=>ak U U) (List.nil_sublist _) λhd=>⟨[],.nil,rfl,rfl,rfl⟩
def JY(H:Hp)(e sz:Nat)(rows:List (List AV))(u:AV)(H':Hp):Prop:=∃news,aP H news/\H'=aD H news/\∃i,u=.own i 0 rows.length sz/\news=[(i,.row e sz rows)]
theorem j5(l:List ByteArray):∀cs∈l.map encS,cs.length=1:=by
 intro cs h;obtain⟨s,_,rfl⟩:=List.mem_map.1 h;rfl
theorem aS(l:List V):(bu l).length=l.length:=by rw[eX,List.length_map]
theorem jR(l:List V):∀cs∈bu l,cs.length=5:=by
 intro cs h;rw[eX] at h;obtain⟨s,_,rfl⟩:=List.mem_map.1 h;exact Y s
theorem Fa(l:List ByteArray)(hl:l.length*16<=140737488355328)(H:Hp):
 au Tryz.prog 43 [strs l] H (JY H 9 1 (l.map encS)):=by
 refine aF (n:=8) (H0:=H) (I:=[]) Tryz.func43 (by kernel_rfl) U (by rw[Tryz.ntmps43];rfl) .nil<|?_
 refine Q.rg<|Q.as U<|Q.nt<|UW.seq<|Q.rg<|Q.mv U<|US.Eb U (by decide) U U Tryz.underlying23 U λc4 hc4=>Q.nt<|?_
 refine UW.cond U (λh=>?_) (λh=>?_)
 ·have hl0:=hc4 h
  refine Q.rg<|Q.as U<|US.kZ 2 9 1 (by decide) U λi=>US.nil<|UQ.then<|UW.ret<|UQ.ax<|bR [(i,.row 9 1 [])] (λ_=>ak U U) (by simp) λhd=>?_
  exact⟨_,hd,rfl,i,by rw[hl0];rfl,by rw[hl0]⟩
 ·refine UW.skip<|UQ.then<|Q.rg<|US.lit U (by decide) U U dQ (by decide) U U U (by simp) λp5=>?_
  refine Q.mv U<|US.iI U (by decide) U U dQ U (k:=0) U (by simp) U (uo.sl (j5 l)) (by simp;omega) U λp7=>?_
  refine Q.as U<|Q.nt<|UW.ret<|bR [(p7,_)] (λ_=>ak U U) (.refl _) λhd=>?_
  exact⟨_,hd,rfl,p7,by simp,by simp⟩
inductive Fits:V->Prop
 |mk (k n:Int) (t:ByteArray) (ks:List ByteArray) (vs:List V) (h1:ks.length<=1000000) (h2:vs.length<=1000000) (h:∀x∈vs,Fits x):Fits (.mk k n t ks vs)
def Vg(H:Hp)(x:V)(u:AV)(H':Hp):Prop:=∃news,aP H news/\H'=aD H news/\∃i j,u=.agg [.v (.int .i64 x.k),.v (.int .i64 x.n),.v (.string x.t),.own i 0 x.ks.length 1,.own j 0 x.vs.length 5]/\news=[(j,.row 26 5 (bu x.vs)),(i,.row 9 1 (x.ks.map encS))]
theorem gH(l:List V)(k:Nat)(h:k<l.length):(bu l)[k]? =some (aC l[k]):=by rw[eX,List.getElem?_map,List.getElem?_eq_getElem h];rfl
theorem Fb(l:List V)(k:Nat)(h:k<l.length):(bu l).take k++[aC l[k]]=(bu l).take (k+1):=by
 rw[List.take_add_one,gH l k h];rfl
theorem Il(l:List V)(hl:l.length<=1000000)(hc:∀x∈l,∀H,au Tryz.prog 44 [.agg (aC x)] H (bB H (.agg (aC x))))(H:Hp):
 au Tryz.prog 93 [.sl (bu l),.iF 44 []] H (JY H 26 5 (bu l)):=by
 refine aF (n:=22) (H0:=H) (I:=[]) Tryz.func93 (by kernel_rfl) U (by rw[Tryz.ntmps93];rfl) .nil<|?_
 refine Q.rg<|Q.as U<|Q.nt<|Q.rg<|Q.as U<|US.kZ 5 26 5 (by decide) U λi0=>US.nil<|UQ.then<|UW.seq<|Q.rg<|Q.mv U<|US.gq U (by decide) U U bP U<|Q.mv U<|Q.nt<|UW.block<|UW.loop (λp:Nat×Nat=>[(10,.v (.int .i64 (p.1:Int))),(5,.own p.2 0 p.1 5),(8,.sl (bu l)),(9,.v (.int .i64 ((bu l).length:Int))),(1,.iF 44 [])]) (λp=>[(p.2,.row 26 5 ((bu l).take p.1))]) (λp=>p.1<=l.length) (λp=>l.length-p.1) (0,i0) (Nat.zero_le _) ⟨rfl,rfl,rfl,rfl,rfl,trivial⟩ (.refl _)<|?_
 rintro⟨k,id⟩ hk
 simp only at hk
 have hll:=aS l
 refine Q.rg<|Q.bi U U U<|Q.nt<|UW.seq<|?_
 refine UW.cond U (λh=>?_) (λh=>?_)
 ·have h:=of_decide_eq_true h
  have hlt:k<l.length:=by omega
  refine UW.skip<|UQ.then<|UW.seq<|UW.block<|Q.rg<|US.bM U (by decide) U U bP U U (by omega) (gH l k hlt) (Y _)<|US.gp U (by decide) U U U av (by exact Y _)<|?_
  refine US.oK U (by decide) U U z26 U U U U λp7=>US.dw U U U av U (k:=0) U (by rfl) U U (by exact az _) (by exact Y _) U<|?_
  refine Q.nt<|UW.region<|Q.mv U<|Q.mv U<|US.dV U (by decide) U U av U (k:=0) U (by exact Y _)<|?_
  refine US.dL U (by decide) U U U U (λ_=>hc _ (List.getElem_mem hlt) _)<|US.qh U (by decide) U U jw (by decide) U U U (by(intro cs h;cases List.mem_singleton.1 h;exact⟨by exact az _,by exact Y _⟩))<|?_
  refine US.iI U (by decide) U U jw U (k:=1) U (by rw[List.length_take];omega) U (uo.sl (λcs h=>by cases List.mem_singleton.1 h;exact Y _)) (by(simp;omega)) (Eq.trans (by rw[List.take_take,Nat.min_self]) (Fb l k hlt)) λp19=>?_
  refine Q.as U<|US.nil<|UQ.aB<|UQ.then<|UW.region<|US.add U (by decide) U U U U (IntWalk.i64_in _ (by omega))<|Q.mv U<|?_
  exact US.round (a':=(k+1,p19)) (by simp only;omega) (by simp only;omega) ⟨rfl,rfl,rfl,rfl,rfl,trivial⟩ (by simp)
 ·have h:=of_decide_eq_false h
  have hkl:k=l.length:=by simp only at h;omega
  refine UW.exit<|UQ.pass<|UQ.pass<|UQ.here<|UQ.then<|Q.rg<|Q.mv U<|Q.as U<|Q.nt<|UW.ret<|bR [(id,_)] (λ_=>ak U U) (.refl _) λhd=>?_
  exact⟨_,hd,rfl,id,by rw[hll,hkl],by rw[hkl,<-hll,List.take_length]⟩
theorem lC{H:Hp}{news:List (Nat×Ob)}(hd:aP H news):Sub H (aD H news):=gP (r':=[]) hd .nil (by simp)
theorem Fe{H:Hp}{news:List (Nat×Ob)}(hd:aP H news){k i:Nat}{rows:List (List AV)}{e sz:Nat}(h:news[k]? =some (i,.row e sz rows)):bO (aD H news) (.own i 0 rows.length sz) H (.sl rows):=by
 have h1:=bO.own (off:=0) (len:=rows.length) (rows':=rows) (lC hd) (hd.at_ h) (hd.base h) (by omega) U (λi cs cs' h1 h2=>by
  rw[h1] at h2;cases h2
  exact⟨rfl,λj u u' h3 h4=>by rw[h3] at h4;cases h4;exact bO.drop (lC hd) u⟩)
 simpa using h1
theorem Ff{H H':Hp}{a b c d e d' e':AV}(hs:Sub H' H)(h1:bO H d H' d')(h2:bO H e H' e'):bO H (.agg [a,b,c,d,e]) H' (.agg [a,b,c,d',e']):=by
 refine bO.agg U λj u u' h3 h4=>?_
 match j with
 |0=>simp at h3 h4;subst h3 h4;exact bO.drop hs _
 |1=>simp at h3 h4;subst h3 h4;exact bO.drop hs _
 |2=>simp at h3 h4;subst h3 h4;exact bO.drop hs _
 |3=>simp at h3 h4;subst h3 h4;exact h1
 |4=>simp at h3 h4;subst h3 h4;exact h2
 |j+5=>simp at h3
theorem jF{P:Program}{f:Nat}{us:List AV}{H:Hp}{x:V}(h:au P f us H (Vg H x)):au P f us H (bB H (.agg (aC x))):=by
 refine h.post<|?_
 rintro u H1 ⟨news,hd,rfl,i,j,rfl,rfl⟩
 refine⟨.agg (aC x),H,lC hd,?_,rfl,rfl⟩
 obtain⟨k,n,t,ks,vs⟩:=x
 simp only[aC,V.k,V.n,V.t,V.ks,V.vs] at hd⊢
 refine Ff (lC hd) ?_ ?_
 ·have:=Fe hd (k:=1) U
  rwa [List.length_map] at this
 ·have:=Fe hd (k:=0) U
  rwa [aS] at this
theorem kT(x:V)(hx:Fits x):∀H,au Tryz.prog 44 [.agg (aC x)] H (Vg H x):=by
 induction hx with
 |mk k n t ks vs h1 h2 h ih=>
 intro H
 refine aF (n:=12) (H0:=H) (I:=[]) Tryz.func44 (by kernel_rfl) U (by rw[Tryz.ntmps44];rfl) .nil<|?_
 refine Q.rg<|US.box U (by decide) U U U U (by rfl) λp1=>?_
 refine US.oK U (by decide) U U z26 U U U U λp2=>Q.nt<|Q.rg<|US.fieldAddr U (by decide) U U U dJ<|Q.lc 1 dB U U U<|?_
 refine US.mE U (by decide) U U U U (λhd=>Fa ks (by omega) _) ?_;rintro _ _ ⟨p5,rfl,rfl⟩;simp only[List.cons_append,List.nil_append]
 refine US.fieldAddr U (by decide) U U U dJ<|US.gu U U U dB U (k:=2) U U U (by rfl) (by rfl) U U<|?_
 refine Q.nt<|Q.rg<|US.fieldAddr U (by decide) U U U bU<|Q.lc 2 dR U U U<|?_
 refine US.mE U (by decide) U U U U (λhd=>Il vs h2 (λx hx H=>jF (ih x hx H)) _) ?_;rintro _ _ ⟨p9,rfl,rfl⟩;simp only[List.cons_append,List.nil_append]
 refine US.fieldAddr U (by decide) U U U bU<|US.gu U U U dR U (k:=3) U U U (by rfl) (by rfl) U U<|?_
 refine Q.nt<|Q.rg<|US.dV U (by decide) U U av U (k:=3) U (by rfl)<|?_
 refine US.dw U U U av U (k:=2) U (by rfl) U U (by rfl) (by rfl) U<|?_
 refine Q.nt<|UW.ret<|?_
 simp only[List.set_cons_succ,List.set_cons_zero]
 refine bR [(p9,_),(p5,_)] (λhd=>aX (k:=2) hd U U U gQ gT) (.cons_cons _ (.cons_cons _ (List.nil_sublist _))) λhd=>?_
 exact⟨_,hd,rfl,p5,p9,by simp only[V.k,V.n,V.t,V.ks,V.vs,List.length_map,aS],rfl⟩
end Go.Proofs.YtonpfomjoiaacaaGreatDoor
end
