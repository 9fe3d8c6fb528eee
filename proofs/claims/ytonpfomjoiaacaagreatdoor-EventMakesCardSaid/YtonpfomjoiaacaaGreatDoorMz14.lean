/- A part of the proof. -/
import Derived.Test.YtonpfomjoiaacaaGreatDoorMz13
import Derived.Lib.UnsafeStr
import Derived.Lib.ConvBytes
import Derived.Lib.Builder
import Derived.Lib.LaidTab
import Derived.Laws.Pointers
import Derived.Laws.IdiomStrings
import Derived.Laws.BytesArg
import Derived.Test.YtonpfomjoiaacaaGreatDoorMz11
set_option maxRecDepth 100000
set_option maxHeartbeats 4000000
set_option linter.unusedSectionVars false
set_option linter.unusedVariables false
set_option linter.unusedSimpArgs false
section
namespace Go.fT
open Go Go.Lib Go.RowKit
section
variable [Rd]
theorem mR(s:ByteArray):s.data.toList.length=s.size:=by rw[Array.length_toList];rfl
def bJ(s:ByteArray):List (List AV):=s.data.toList.map λb=>[.v (.int .u8 b.toNat)]
theorem fF(s:ByteArray):(bJ s).length=s.size:=by unfold bJ;rw[List.length_map];rfl
theorem xw(s:ByteArray):∀cs∈bJ s,cs.length=1:=by
 intro cs h
 obtain⟨b,_,rfl⟩:=List.mem_map.1 h
 rfl
theorem rW(s:ByteArray):(bJ s).flatten=s.data.toList.map λb=>AV.v (.int .u8 b.toNat):=by
 unfold bJ
 induction s.data.toList with
 |nil=>rfl
 |cons b r ih=>simp only[List.map_cons,List.flatten_cons,ih];rfl
theorem K4{ok:Nat->Prop}{ρ:gz}{w:World}(s:ByteArray):aX ok ρ w (bJ s).flatten (strCells s):=by
 rw[rW]
 have:=jG (ok:=ok) (ρ:=ρ) (w:=w) (strCells s) (List.all_eq_true.2 (strCells_oneCell s))
 unfold strCells at this⊢
 rwa [List.map_map] at this
section
variable {P:Program} {n:Nat} {T:Sl} {H:Hp} {ops:Array Oper} {o:Oper} {K:AV->Hp->Prop}
theorem Does.Nu{t t' e:Nat}{s x:Operand}{id len:Nat}{rows:List (List AV)}{str:ByteArray}(hg:o.guard=none)(ho:o.op=.call {callee:=.builtin .append,args:= #[s,x],argTypes:= #[t,t']})(ht:jE P t e 1 1)(hz8:(P.info? e).map (·.zero)=some (some (.int .u8 0)))(hu:P.underlying t'=some .string)
 (hs:ev T s=.own id 0 len 1) (h2:H id=some (.row e 1 rows)) (hle:len<=rows.length) (hx:ev T x=.v (.string str)) (hb:len+str.size<=140737488355328)
 (hk:∀id',H id'=none->K (.own id' 0 (len+str.size) 1) (set (set H id none) id' (some (.row e 1 (rows.take len++bJ str))))):Does P n ops o T H K:=by
 intro a w ρ h1 hd h3 h4 N Q hN
 rw[if_pos (by simp[Region.wanted,hg])]
 have hr:=gP h4
 have h5:=hr s
 rw[hs] at h5
 have h6x:=hr x
 rw[hx] at h6x
 have hxv:=aS h6x
 obtain⟨v0,hv0,hz,inner,how,hl,hc⟩:=h3.ob _ _ h2
 have hcut:∃v,a.eval s=v/\w.ownsRow 0 e 1 v len (inner.take len)/\blk v=blk v0/\v.ownBlock=v0.ownBlock:=by
  generalize a.eval s=xx at h5
  have hil:inner.length=rows.length:=by have:=how.1;omega
  cases h5 with
  |lW _ _ hv=>
   rw[hv0] at hv;cases hv
   exact⟨_,rfl,⟨by simp,.inl ⟨rfl,rfl⟩⟩,rfl,rfl⟩
  |nP _ _ _ g m c o' c' hv h0 _=>exact absurd U h0
  |own _ _ _ _ g m cap hv Ac hmax=>
   rw[hv0] at hv;cases hv
   rcases how.2 with ⟨h6,_⟩|⟨g',cap',cur,h6,_,hg',h7,h8,h9,h10⟩
   ·cases h6
   ·cases h6
    refine⟨_,rfl,⟨by rw[List.length_take,hil];omega,.inr ⟨g,cap,cur,by simp,Nat.zero_le _,hg',by omega,h8,h9,?_⟩⟩,by simp[blk],by simp[Value.ownBlock]⟩
    rw[<-h10,List.take_take]
    congr 1
    omega
 obtain⟨v,hv,hown,hbv,hov⟩:=hcut
 obtain⟨hut,_,i,hi,hsi,hbi⟩:=dR ht.sl
 have hzi:i.zero=some (.int .u8 0):=by rw[hi] at hz8;simpa using hz8
 have wI:len+str.size<=maxLen:=by simp only[maxLen];omega
 obtain⟨v',w',hrun,hown',hgr,hnil⟩:=run_append_own_string (P:=P) w 0 t t' o.type e i hut hu hi hzi hsi hbi v len (inner.take len) hown str wI hb (Nat.zero_le _)
 have hat:v'.ownBlock=v.ownBlock\/v'.ownBlock=some w.heap.size:=by
  have hxl:(inner.take len).length=len:=by simpa using hown.1
  rcases hown.2 with ⟨rfl,rfl⟩|⟨g,cap,cur,rfl,hbg,hg',hnc,hcm,hcs,htake⟩
  ·by_cases hm:str.size=0
   ·exact .inl (by rw[hnil.2 ⟨rfl,hm⟩])
   ·have hr2:=run_append_nil_string (P:=P) w t t' o.type e i (.int .u8 0) hut hu hi hzi str (by omega) (by omega) (by rw[hbi];omega)
    rw[hr2] at hrun
    cases hrun
    exact .inr U
  ·by_cases hroom:len+str.size<=cap
   ·have hr2:=run_append_room_string (P:=P) w t t' o.type e i hut hu hi hsi g len cap cur hg' str hroom (by omega)
    rw[hr2] at hrun
    cases hrun
    exact .inl U
   ·have holds:∀j u,(inner.take len)[j]? =some u->w.cell? ((⟨g,0,none⟩:Addr).add j)=some u:=hown.cells (g:=g) U
    have hr2:=run_append_grow_string (P:=P) w t t' o.type e i (.int .u8 0) hut hu hi hzi ⟨g,0,none⟩ len cap (inner.take len) (by rw[hsi];omega) holds str (by omega) (by omega) (by rw[hbi];exact growslice_fits (by omega) (by omega))
    rw[hr2] at hrun
    cases hrun
    exact .inr U
 have hsl:=og hown
 have SI:=og hown'
 have htk:aX (bF ρ H) ρ w (rows.take len++bJ str).flatten (inner.take len++strCells str):=by
  rw[List.flatten_append,gF 1 _ _ hl]
  refine gZ ?_ (K4 str)
  have:=fq hc 0 (len*1)
  simpa using this
 obtain⟨id',ρ',e1,e2,e3,e4,e5⟩:=h3.move (w':=w') (v:=v') (.row e 1 (rows.take len++bJ str)) h2 hv0 hgr.os hgr.tape hgr.output hgr.size
  (λk hk hn=>hgr.block k hk (λhe=>hn (by rw[<-hbv];exact(rJ hsl).2 he.symm)))
  (λk hk=>⟨by
    have hk':=(rJ SI).1 hk
    rcases hat with hat|hat
    ·left;rw[<-hbv];exact(rJ hsl).2 (by rw[<-hat];exact hk')
    ·right;rw[hat] at hk';cases hk';exact Nat.le_refl _,Ni hown' hk⟩)
  (λρ' H' e'=>⟨hz,inner.take len++strCells str,by
    have:(rows.take len++bJ str).length=len+str.size:=by rw[List.length_append,fF,List.length_take];omega
    rw[this];exact hown',λcs hcs=>by
     rcases List.mem_append.1 hcs with h6|h6
     ·exact hl cs (List.mem_of_mem_take h6)
     ·exact xw str cs h6,e'.cells htk⟩)
 unfold Oper.wp
 rw[oO ho (by rw[hv,hxv];exact hrun)]
 exact hN v' w' ρ' _ _ e4 e5 (uA hown' e3) (hk id' e2)
theorem jT{ok:Nat->Prop}{ρ:gz}{w:World}{id off:Nat}{x:Value}(h:dU ok ρ w (.ptr id off) x):∃g v,x=.pointer (some ⟨g,off,none⟩)/\ρ id=some v/\(v=.pointer (some ⟨g,0,none⟩)\/∃n cap,v=.slice (some ⟨g,0,none⟩) n cap):=by
 cases h with
 |ptr _ _ g v hv hx=>exact⟨g,v,rfl,hv,hx⟩
theorem Does.nilCheck{x:Operand}{id off:Nat}(hg:o.guard=none)(ho:o.op=.nilCheck x)(hx:ev T x=.ptr id off)(hk:K (.ptr id off) H):Does P n ops o T H K:=by
 refine Does.val _ hg (λac w ρ hh hr=>?_) hk
 have h3:=hr x
 rw[hx] at h3
 obtain⟨g,v,e,_,_⟩:=jT h3
 refine⟨ac.eval x,?_,h3⟩
 unfold execOp
 rw[ho]
 simp only[e,Sem.run_pure]
theorem uI{op:BinOp}{t:Nat}{x y:Operand}{p:Option Addr}{b:Value}{w:World}:(eqGuard op t x y (.pointer p) b).run P w=.ok () w:=by
 unfold eqGuard
 cases op<;>simp
theorem Does.VA{t t2 e:Nat}{x:Operand}(hg:o.guard=none)(ho:o.op=.binOp .eql t x (.const (.pointer none)) t2)(ht:P.underlying t=some (.pointer e))(hx:ev T x=.v (.pointer none))(hk:K (.v (.bool true)) H):Does P n ops o T H K:=by
 refine Does.val _ hg (λac w ρ hh hr=>⟨_,iq ho ?_ ?_,.v _⟩) hk
 ·have h3:=hr x
  rw[hx] at h3
  rw[aS h3];exact uI
 ·have h3:=hr x
  rw[hx] at h3
  rw[aS h3]
  exact run_eql_pointer_nil w t _ (by unfold Program.pointee;rw[ht])
theorem Does.VB{t t2 e:Nat}{x:Operand}{id off:Nat}(hg:o.guard=none)(ho:o.op=.binOp .eql t x (.const (.pointer none)) t2)(ht:P.underlying t=some (.pointer e))(hx:ev T x=.ptr id off)(hk:K (.v (.bool false)) H):Does P n ops o T H K:=by
 refine Does.val _ hg (λac w ρ hh hr=>⟨_,iq ho ?_ ?_,.v _⟩) hk
 ·have h3:=hr x
  rw[hx] at h3
  obtain⟨g,v,e,_,_⟩:=jT h3
  rw[e];exact uI
 ·have h3:=hr x
  rw[hx] at h3
  obtain⟨g,v,e,_,_⟩:=jT h3
  rw[e]
  exact run_eql_pointer_nil w t _ (by unfold Program.pointee;rw[ht])
theorem Does.VC{t t2 e:Nat}{x y:Operand}{id off:Nat}{j:TypeInfo}(hg:o.guard=none)(ho:o.op=.binOp .neq t x y t2)(ht:P.underlying t=some (.pointer e))(hj:P.info? e=some j)(hx:ev T x=.ptr id off)(hy:ev T y=.ptr id off)(hk:K (.v (.bool false)) H):Does P n ops o T H K:=by
 refine Does.val _ hg (λac w ρ hh hr=>?_) hk
 have h3:=hr x
 have h4:=hr y
 rw[hx] at h3
 rw[hy] at h4
 obtain⟨g,v,e1,hv,hf⟩:=jT h3
 obtain⟨g',v',e2,hv',hf'⟩:=jT h4
 rw[hv] at hv'
 cases hv'
 have hgg:g'=g:=by
  rcases hf with rfl|⟨_,_,rfl⟩<;>rcases hf' with h|⟨_,_,h⟩<;>cases h<;>rfl
 subst hgg
 exact⟨_,iq ho (by rw[e1];exact uI) (by rw[e1,e2];exact run_neq_ptr_same w _ ht hj),.v _⟩
theorem Does.QP{s d e t0:Nat}{x:Operand}{id:Nat}{cells:List AV}{j:TypeInfo}(hg:o.guard=none)(ho:o.op=.convert s d x)(hs:P.underlying s=some (.pointer e))(hd:P.underlying d=some .unsafePointer)(hj:P.info? e=some j)(hj0:j.size≠0)(hx:ev T x=.ptr id 0)(h2:H id=some (.box t0 cells))(hc:cells≠[])(hk:K (.ptr id 0) H):Does P n ops o T H K:=by
 refine Does.val _ hg (λac w ρ hh hr=>?_) hk
 have h3:=hr x
 rw[hx] at h3
 obtain⟨g,vals,e1,hv,hgc,hrc⟩:=kN hh h2 h3
 refine⟨ac.eval x,?_,h3⟩
 have hl:0<vals.length:=by rw[<-hrc.1];exact List.length_pos_iff.2 hc
 have:=run_to_unsafe (P:=P) w (src:=s) (dst:=d) ⟨g,0,none⟩ hs hd hj hj0 (cells:=vals.length) (e:=t0) (by simp[World.shape?,hgc]) hl
 unfold execOp
 rw[ho]
 simp only[e1,Sem.run_bind,this,Result.andThen_ok,Sem.run_pure]
theorem Does.K5{s d e t0:Nat}{x:Operand}{id:Nat}{cells:List AV}{j:TypeInfo}(hg:o.guard=none)(ho:o.op=.convert s d x)(hs:P.underlying s=some .unsafePointer)(hd:P.underlying d=some (.pointer e))(hj:P.info? e=some j)(hl:liesAt P P.depth t0 (cells.length/P.cellsOf t0) 0 e 1=true)(hx:ev T x=.ptr id 0)(h2:H id=some (.box t0 cells))(hk:K (.ptr id 0) H):Does P n ops o T H K:=by
 refine Does.val _ hg (λac w ρ hh hr=>?_) hk
 have h3:=hr x
 rw[hx] at h3
 obtain⟨g,vals,e1,hv,hgc,hrc⟩:=kN hh h2 h3
 refine⟨ac.eval x,?_,h3⟩
 have:=run_from_unsafe (P:=P) w (src:=s) (dst:=d) ⟨g,0,none⟩ hs hd hj (cells:=vals.length) (e:=t0) (by simp[World.shape?,hgc]) (by rw[<-hrc.1];exact hl)
 unfold execOp
 rw[ho]
 simp only[e1,Sem.run_bind,this,Result.andThen_ok,Sem.run_pure]
theorem Does.Tm{f:Nat}{fn:Func}{cc x:Operand}{at_:Array TypeId}{u:AV}(hg:o.guard=none)(ho:o.op=.call {callee:=.value cc,args:= #[x],argTypes:=at_})(hf:P.funcs[f]? =some fn)(hname:(fn.name== "runtime.NumGoroutine")=false)(hb:fn.body.isNone=true)(hn:Extern.findNext fn=none)(he:Extern.find fn=some Extern.AbiNoEscape.same)
 (hc:ev T cc=.gN f []) (hx:ev T x=u) (hk:K u H):Does P n ops o T H K:=by
 refine Does.val _ hg (λac w ρ hh hr=>?_) hk
 have h3:=hr x
 have h4:=hr cc
 rw[hx] at h3
 rw[hc] at h4
 obtain⟨vs,hcv,hvs⟩:=Ci h4
 have Td:vs=[]:=List.eq_nil_of_length_eq_zero (by simpa using hvs.1.symm)
 subst Td
 refine⟨ac.eval x,?_,h3⟩
 have h8:=run_callFunc_extern (P:=P) hf hname hb hn he #[ac.eval x] w
 rw[run_noEscape] at h8
 unfold execOp
 rw[ho]
 generalize ac.eval=ev' at hcv h3 h8⊢
 simp only[resolve,Deferred.ofValue,hcv,invoke,Sem.run_bind,Sem.run_pure,Result.andThen_ok,List.map_toArray,List.map_cons,List.map_nil]
 simpa using h8
theorem dN.kill{ρ:gz}{w w':World}{id:Nat}{v:Value}{Vo:Ob}(h:dN ρ H w)(h0:H id=some Vo)(hr:ρ id=some v)(hos:w'.os=w.os)(CK:w'.tape=w.tape)(hout:w'.output=w.output)(hsize:w.heap.size<=w'.heap.size)(hch:∀k,k<w.heap.size->blk v≠some k->w'.heap[k]? =w.heap[k]?):
 dN ρ (set H id none) w'/\Ext ρ H w ρ (set H id none) w':=by
 have hsub:Sub (set H id none) H:=λi ob hi=>by
  by_cases hj:i=id
  ·subst hj;rw[set_self] at hi;cases hi
  ·rwa [dM _ _ hj] at hi
 have e:Ext ρ H w ρ (set H id none) w':=⟨hos,CK,hout,hsize,λk hk hn=>hch k hk (λhe=>hn ⟨id,Vo,v,h0,hr,he⟩),λk hk=> .inl (Hz hsub hk),λ_ _ h=>h⟩
 refine⟨⟨λi ob hi=>?_,λi i' o o' v v' k a b=>h.apart i i' o o' v v' k (hsub i o a) (hsub i' o' b),h.room,λi v k a b=>Nat.lt_of_lt_of_le (h.lt i v k a b) hsize⟩,e⟩
 have hi2:=hsub i ob hi
 have hne:i≠id:=λhe=>by subst he;rw[set_self] at hi;cases hi
 obtain⟨v',hv',iD⟩:=h.ob i ob hi2
 exact⟨v',hv',iD.ext e λk hk=>hch k (h.lt i v' k hv' hk) λhe=>hne (h.apart i id ob Vo v' v k hi2 h0 hv' hr hk he)⟩
theorem dN.below{ρ:gz}{w w':World}(h:dN ρ H w)(hb:Below w.heap.size w w'):dN ρ H w'/\Ext ρ H w ρ H w':=by
 have e:Ext ρ H w ρ H w':=⟨hb.os,hb.tape,hb.output,hb.size,λk hk _=>hb.block k hk,λk hk=> .inl hk,λ_ _ h=>h⟩
 exact⟨⟨λi ob hi=>by
  obtain⟨v,hv,iD⟩:=h.ob i ob hi
  exact⟨v,hv,iD.ext e λk hk=>hb.block k (h.lt i v k hv hk)⟩,h.apart,h.room,λi v k a b=>Nat.lt_of_lt_of_le (h.lt i v k a b) hb.size⟩,e⟩
theorem Nv{a:Act}{w w':World}{x:Operand}{t:TypeId}{v':Value}(ho:o.op=.call {callee:=.builtin .unsafeSliceData,args:= #[x],argTypes:= #[t]})
 (h:(Builtin.unsafeSliceData_ #[t] o.type #[a.eval x]).run P w=.ok v' w'):(execOp a.eval o).run P w=.ok (.value v') w':=by
 unfold execOp
 rw[ho]
 simp only[resolve,List.map_toArray,List.map_cons,List.map_nil,Sem.run_bind,Sem.run_pure,Result.andThen_ok,invoke,builtin,h]
theorem Nw{a:Act}{w w':World}{x y:Operand}{t t':TypeId}{v':Value}(ho:o.op=.call {callee:=.builtin .unsafeString,args:= #[x,y],argTypes:= #[t,t']})
 (h:(Builtin.unsafeString_ #[t,t'] o.type #[a.eval x,a.eval y]).run P w=.ok v' w'):(execOp a.eval o).run P w=.ok (.value v') w':=by
 unfold execOp
 rw[ho]
 simp only[resolve,List.map_toArray,List.map_cons,List.map_nil,Sem.run_bind,Sem.run_pure,Result.andThen_ok,invoke,builtin,h]
theorem Does.sliceData{t e sz:Nat}{x:Operand}{id len:Nat}{rows:List (List AV)}(hg:o.guard=none)(ho:o.op=.call {callee:=.builtin .unsafeSliceData,args:= #[x],argTypes:= #[t]})(hx:ev T x=.own id 0 len sz)(h2:H id=some (.row e sz rows))(hl:0<len)(hk:K (.ptr id 0) H):Does P n ops o T H K:=by
 refine Does.val _ hg (λac w ρ hh hr=>?_) hk
 have h3:=hr x
 rw[hx] at h3
 obtain⟨g,cap,cur,inner,q1,q2,q3,q4,_⟩:=Ic hh h2 h3 hl
 rw[Nat.zero_mul,Nat.sub_zero] at q2
 refine⟨.pointer (some ⟨g,0,none⟩),Nv ho ?_,.ptr id 0 g _ q1 (.inr ⟨_,_,rfl⟩)⟩
 rw[q2]
 exact run_unsafeSliceData_row w _ _ _ _ _ (by omega)
theorem Does.unsafeString{t t' e:Nat}{x y:Operand}{id len:Nat}{s:ByteArray}(hg:o.guard=none)(ho:o.op=.call {callee:=.builtin .unsafeString,args:= #[x,y],argTypes:= #[t,t']})(ht:P.underlying t=some (.pointer e))(hce:P.cellsOf e=1)(hx:ev T x=.ptr id 0)(hy:ev T y=.v (.int .i64 (len:Int)))(h2:H id=some (.row e 1 (bJ s)))(hl:0<len)(hls:len=s.size)
 (hk:K (.v (.string s)) (set H id none)):Does P n ops o T H K:=by
 subst hls
 intro a w ρ h1 hd h3 h4 N Q hN
 rw[if_pos (by simp[Region.wanted,hg])]
 have h5:=gP h4 x
 have h6:=gP h4 y
 rw[hx] at h5
 rw[hy] at h6
 obtain⟨g,v,e1,hv,hf⟩:=jT h5
 obtain⟨v0,hv0,hz,inner,how,hrl,hc⟩:=h3.ob _ _ h2
 rw[hv0] at hv
 cases hv
 rw[fF] at how
 rcases how.2 with ⟨h7,h8⟩|⟨g',cap,cur,h7,_,hg',h8,h9,h10,h11⟩
 ·omega
 subst h7
 have hgg:g'=g:=by rcases hf with h|⟨_,_,h⟩<;>cases h;rfl
 subst hgg
 have hdl:s.data.toList.length=s.size:=mR s
 have hin:inner=strCells s:=by
  have h12:=hc.1
  rw[rW,List.length_map] at h12
  refine List.ext_getElem? λj=>?_
  by_cases hj:j<s.data.toList.length
  ·have h13:=(hc.2 j (.v (.int .u8 (s.data.toList[j]).toNat)) (inner[j]'(by omega)) (by rw[rW,List.getElem?_map,List.getElem?_eq_getElem hj];rfl) (List.getElem?_eq_getElem (by omega))).1
   rw[List.getElem?_eq_getElem (by omega),aS h13,strCells,List.getElem?_map,List.getElem?_eq_getElem hj];rfl
  ·rw[List.getElem?_eq_none (by omega),List.getElem?_eq_none (by rw[strCells_length];omega)]
 have hcell:∀j (b:UInt8),s.data.toList[j]? =some b->w.cell? ((⟨g',0,none⟩:Addr).add j)=some (.int .u8 b.toNat):=by
  intro j b hb
  have hj:=(List.getElem?_eq_some_iff.1 hb).1
  have h14:cur.toList[j]? =some (.int .u8 b.toNat):=by
   have:(cur.toList.take (s.size*1))[j]? =some (.int .u8 b.toNat):=by rw[h11,hin,strCells,List.getElem?_map,hb];rfl
   rw[List.getElem?_take,if_pos (by omega)] at this
   exact this
  rw[add_plain,Nat.zero_add]
  simp only[World.cell?,hg']
  simpa using h14
 have hrun:=run_unsafeString_row (P:=P) w t t' o.type e ht hce g' cur.size (by simp[World.shape?,hg']) s.data.toList (by intro h;rw[h] at hdl;simp at hdl;omega) (by rw[hdl];omega) (by rw[hdl];simp only[maxLen] at h9;omega) hcell
 rw[hdl] at hrun
 have hs':(⟨s.data.toList.toArray⟩:ByteArray)=s:=by rw[Array.toArray_toList]
 rw[hs'] at hrun
 unfold Oper.wp
 rw[Nw ho (by rw[e1,aS h6];exact hrun)]
 have hfz:∀k,k≠g'->(w.freeze ⟨g',0,none⟩ s.size).heap[k]? =w.heap[k]? :=λk hk=>by
  unfold World.freeze
  split
  ·rfl
  ·simp only[Array.getElem?_modify]
   rw[if_neg (λh=>hk h.symm)]
 have hw:=h3.kill (w':=w.freeze ⟨g',0,none⟩ s.size) h2 hv0 (by unfold World.freeze;split<;>rfl) (by unfold World.freeze;split<;>rfl) (by unfold World.freeze;split<;>rfl) (by unfold World.freeze;split<;>simp) (λk hk hn=>hfz k (λh=>hn (by simp[blk,h])))
 exact hN _ _ ρ _ _ hw.1 hw.2 (.v _) hk
theorem Dk{s:ByteArray}{j:Nat}(hj:j<s.size):(bJ s)[j]? =some [.v (.int .u8 (s.data.toList[j]'(by rw[mR];exact hj)).toNat)]:=by
 unfold bJ
 rw[List.getElem?_map,List.getElem?_eq_getElem (by rw[mR];exact hj)];rfl
theorem Does.QQ{t t2 e:Nat}{x:Operand}{s:ByteArray}(hg:o.guard=none)(ho:o.op=.convert t t2 x)(ht:P.underlying t=some (.slice e))(he:P.underlying e=some (.int .u8))(hd:P.underlying t2=some .string)(hx:ev T x=.sl (bJ s))(hk:K (.v (.string s)) H):Does P n ops o T H K:=by
 refine Does.val _ hg (λac w ρ hh hr=>⟨.string s,?_,.v _⟩) hk
 have h3:=hr x
 rw[hx] at h3
 have hdl:s.data.toList.length=s.size:=mR s
 have key:(convert t t2 (ac.eval x)).run P w=.ok (.string s) w:=by
  generalize hrows:bJ s=rows at h3
  generalize ac.eval x=z at h3
  cases h3 with
  |nil=>
   have h0:s.size=0:=by rw[<-fF,hrows];rfl
   have:=run_convert_bytes_nil (P:=P) w t e ht he 0 0 t2 hd
   rw[this]
   congr 2
   exact ByteArray.ext (by
    have:s.data.size=0:=h0
    have h1:s.data= #[]:=Array.eq_empty_of_size_eq_zero this
    rw[h1];rfl)
  |sl _ a cap sz vals hcap hmax hok hsz hc hr2=>
   have hl2:rows.length=s.data.toList.length:=by rw[<-hrows,fF,hdl]
   rw[hl2]
   have:=run_convert_bytes_back (P:=P) w t t2 e a cap s.data.toList ht he hd (λj hj=>by
    have hjs:j<s.size:=by omega
    have hrj:=Dk hjs
    rw[hrows] at hrj
    obtain⟨h4,_⟩:=hc j _ 0 hrj (by simp)
    have h5:=hr2 j _ 0 _ hrj U
    have hsz1:sz=1:=by have:=hsz _ (List.mem_of_getElem? hrj);simpa using this.symm
    subst hsz1
    rw[Nat.mul_one,Nat.add_zero] at h4
    exact h4.trans (congrArg some (aS h5)))
   rw[this,Array.toArray_toList]
 unfold execOp
 rw[ho]
 simp only[Sem.run_bind,key,Result.andThen_ok,Sem.run_pure]
theorem Does.QR{t t2 e:Nat}{x:Operand}{s:ByteArray}(hg:o.guard=none)(ho:o.op=.convert t t2 x)(ht:P.underlying t=some .string)(hd:P.underlying t2=some (.slice e))(he:P.underlying e=some (.int .u8))(hx:ev T x=.v (.string s))(hm:s.size<=140737488355328)(hk:K (.sl (bJ s)) H):Does P n ops o T H K:=by
 intro a w ρ h1 hd0 h3 h4 N Q hN
 rw[if_pos (by simp[Region.wanted,hg])]
 have h5:=gP h4 x
 rw[hx] at h5
 have hb:Below w.heap.size w (bytesWorld w e s):=⟨by unfold bytesWorld World.freeze;split<;>rfl,by unfold bytesWorld World.freeze;split<;>rfl,by unfold bytesWorld World.freeze;split<;>rfl,by rw[bytesWorld_size];omega,λk hk=>bytesWorld_at_old w e s k hk⟩
 obtain⟨hh,hx2⟩:=h3.below hb
 have hge:=grownCap_ge w s.size 0 e
 have hmx:grownCap w s.size 0 e<=maxLen:=grownCap_le_maxLen w s.size 0 e (by simp only[maxLen];omega)
 have hrep:dU (bF ρ H) ρ (bytesWorld w e s) (.sl (bJ s)) (.slice (some ⟨w.heap.size,0,none⟩) s.size (grownCap w s.size 0 e)):=by
  have:=dU.sl (ok:=bF ρ H) (ρ:=ρ) (w:=bytesWorld w e s) (bJ s) ⟨w.heap.size,0,none⟩ (grownCap w s.size 0 e) 1 (λi _=> .int .u8 (s.data.toList.getD i 0).toNat) (by rw[fF];exact hge) hmx
   (λ_=>⟨λ⟨i,ob,v,a,b,c⟩=>by have:=h3.lt i v _ b c;simp at this,by rw[bytesWorld_size];simp⟩) (xw s) (λi cs j hi hj=>by
     have hi2:i<s.size:=by rw[<-fF];exact(List.getElem?_eq_some_iff.1 hi).1
     have hj0:j=0:=by have:=xw s cs (List.mem_of_getElem? hi);omega
     subst hj0
     rw[add_plain,Nat.zero_add,Nat.mul_one,Nat.add_zero]
     exact⟨bytesWorld_cell w e s i hi2,rfl⟩) (λi cs j u hi hj=>by
     have hi2:i<s.size:=by rw[<-fF];exact(List.getElem?_eq_some_iff.1 hi).1
     rw[Dk hi2] at hi
     cases hi
     match j with
     |0=>
      cases hj
      have hil:i<s.data.toList.length:=by rw[mR];exact hi2
      rw[List.getD_eq_getElem?_getD,List.getElem?_eq_getElem hil]
      exact .v _
     |j+1=>simp at hj)
  rwa [fF] at this
 have hrun:=Go.Lib.run_convert_string_bytes (P:=P) w t t2 e s ht hd he
 have e1:=aS h5
 unfold Oper.wp
 have:(execOp a.eval o).run P w=.ok (.value (.slice (some ⟨w.heap.size,0,none⟩) s.size (grownCap w s.size 0 e))) (bytesWorld w e s):=by
  unfold execOp
  rw[ho]
  simp only[e1,Sem.run_bind,hrun,Result.andThen_ok,Sem.run_pure]
 rw[this]
 exact hN _ _ ρ _ _ hh hx2 hrep hk
theorem au.uJ{f:Nat}{us:List AV}{r:Value}(hb:HV P f)(h:∀ρ w vals,dN ρ H w->KI (bF ρ H) ρ w us vals->Calls P f vals.toArray w λe w'=>e=.returned r/\Below w.heap.size w w'):au P f us H (bz H (.v r)):=
 ⟨hb,λρ w vals hh hr=>(h ρ w vals hh hr).mono λe w' ⟨he,hbl⟩=>by
   obtain⟨h1,h2⟩:=hh.below hbl
   exact⟨r,ρ,.v r,H,he,h1,h2,.v _,rfl,rfl⟩⟩
theorem dN.raw{ρ:gz}{w:World}{id g:Nat}{x:Obj}(h:dN ρ H w)(h0:H id=some (.raw g x)):w.heap[g]? =some x:=by
 obtain⟨v,_,iD⟩:=h.ob _ _ h0
 exact iD.2.2.1
end
section
variable {P:Program} {n:Nat} {ops:Array Oper} {H0:Hp} {l:List (Nat×AV)} {I aL:List (Nat×Ob)} {dst:Option Nat} {ty:TypeId} {ps:String} {af:Array Edge} {x y:Operand} {u r:AV} {t t2 t' e sz id off len k:Nat} {cells us:List AV} {rows:List (List AV)} {s str:ByteArray} {K:AV->List (Nat×Ob)->Prop}
theorem Z.nN(hx:aT l x=some (.ptr id off)):QS P n ops H0 ⟨dst,.nilCheck x,ty,ps,af,none⟩ l I (.ptr id off):=λ_=>Does.nilCheck U U (aG hx) ⟨rfl,rfl⟩
theorem Z.pnt(ht:P.underlying t=some (.pointer e))(hx:aT l x=some (.v (.pointer none))):QS P n ops H0 ⟨dst,.binOp .eql t x (.const (.pointer none)) t2,ty,ps,af,none⟩ l I (.v (.bool true)):=λ_=>Does.VA U U ht (aG hx) ⟨rfl,rfl⟩
theorem Z.pnf(ht:P.underlying t=some (.pointer e))(hx:aT l x=some (.ptr id off)):QS P n ops H0 ⟨dst,.binOp .eql t x (.const (.pointer none)) t2,ty,ps,af,none⟩ l I (.v (.bool false)):=λ_=>Does.VB U U ht (aG hx) ⟨rfl,rfl⟩
theorem Z.pne(ht:P.underlying t=some (.pointer e))(hx:aT l x=some (.ptr id off))(hy:aT l y=some (.ptr id off))(hj:(P.info? e).isSome=true:=by kernel_rfl):QS P n ops H0 ⟨dst,.binOp .neq t x y t2,ty,ps,af,none⟩ l I (.v (.bool false)):=by
 obtain⟨j,hj⟩:=Option.isSome_iff_exists.1 hj
 exactλ_=>Does.VC U U ht hj (aG hx) (aG hy) ⟨rfl,rfl⟩
theorem Z.tou{t0:Nat}(k:Nat)(hs:P.underlying t=some (.pointer e))(hd:P.underlying t2=some .unsafePointer)(hx:aT l x=some (.ptr id 0))(h2:I[k]? =some (id,.box t0 cells))(hc:cells≠[])(hj:(P.info? e).any (·.size !=0)=true:=by kernel_rfl):QS P n ops H0 ⟨dst,.convert t t2 x,ty,ps,af,none⟩ l I (.ptr id 0):=by
 cases hi:P.info? e with
 |none=>rw[hi] at hj;cases hj
 |some j=>
  rw[hi] at hj
  exactλhd0=>Does.QP U U hs hd hi (by simpa using hj) (aG hx) (hd0.at_ h2) hc ⟨rfl,rfl⟩
theorem Z.fru{t0 m:Nat}(k:Nat)(hs:P.underlying t=some .unsafePointer)(hd:P.underlying t2=some (.pointer e))(hx:aT l x=some (.ptr id 0))(h2:I[k]? =some (id,.box t0 cells))(hm:cells.length=m)(hl:liesAt P P.depth t0 (m/P.cellsOf t0) 0 e 1=true:=by kernel_rfl)(hj:(P.info? e).isSome=true:=by kernel_rfl):QS P n ops H0 ⟨dst,.convert t t2 x,ty,ps,af,none⟩ l I (.ptr id 0):=by
 subst hm
 obtain⟨j,hj⟩:=Option.isSome_iff_exists.1 hj
 exactλhd0=>Does.K5 U U hs hd hj hl (aG hx) (hd0.at_ h2) ⟨rfl,rfl⟩
theorem Z.nox{f:Nat}{fn:Func}{cc:Operand}{at_:Array TypeId}(hf:P.funcs[f]? =some fn)(hc:aT l cc=some (.gN f []))(hx:aT l x=some u)(hname:(fn.name== "runtime.NumGoroutine")=false:=by kernel_rfl)(hb:fn.body.isNone=true:=by kernel_rfl)(hn:Extern.findNext fn=none:=by kernel_rfl)(he:Extern.find fn=some Extern.AbiNoEscape.same:=by kernel_rfl):QS P n ops H0 ⟨dst,.call {callee:=.value cc,args:= #[x],argTypes:=at_},ty,ps,af,none⟩ l I u:=λ_=>Does.Tm U U hf hname hb hn he (aG hc) (aG hx) ⟨rfl,rfl⟩
theorem D.aps(k:Nat)(ht:jE P t e 1 1)(hz8:(P.info? e).map (·.zero)=some (some (.int .u8 0)))(hu:P.underlying t'=some .string)(hs:aT l y=some (.own id 0 len 1))(h2:I[k]? =some (id,.row e 1 rows))(hle:len<=rows.length)(hx:aT l x=some (.v (.string str)))(hb:len+str.size<=140737488355328){rws:List (List AV)}(hr:rows.take len++bJ str=rws)
 (hk:∀id',K (.own id' 0 (len+str.size) 1) ((id',.row e 1 rws)::I.eraseIdx k)):DS P n ops H0 ⟨dst,.call {callee:=.builtin .append,args:= #[y,x],argTypes:= #[t,t']},ty,ps,af,none⟩ l I K:=
 λay=>by
  subst hr
  have oJ:=ay.kill h2
  refine Does.Nu U U ht hz8 hu (aG hs) (ay.at_ h2) hle (aG hx) hb λid' hid=>⟨(id',.row e 1 (rows.take len++bJ str))::I.eraseIdx k,?_,?_,hk id'⟩
  ·rw[oJ.1];rfl
  ·have hne:id'≠id:=λhe=>by rw[he,ay.at_ h2] at hid;cases hid
   exact .cons (by rw[<-oJ.1,dM _ _ hne];exact hid) oJ.2
theorem Z.usd(k:Nat)(hx:aT l x=some (.own id 0 len sz))(h2:I[k]? =some (id,.row e sz rows))(hl:0<len):QS P n ops H0 ⟨dst,.call {callee:=.builtin .unsafeSliceData,args:= #[x],argTypes:= #[t]},ty,ps,af,none⟩ l I (.ptr id 0):=λhd=>Does.sliceData U U (aG hx) (hd.at_ h2) hl ⟨rfl,rfl⟩
theorem D.ust(k:Nat)(ht:P.underlying t=some (.pointer e))(hce:P.cellsOf e=1)(hx:aT l x=some (.ptr id 0))(hy:aT l y=some (.v (.int .i64 (len:Int))))(h2:I[k]? =some (id,.row e 1 (bJ s)))(hl:0<len)(hls:len=s.size)(hk:K (.v (.string s)) (I.eraseIdx k)):DS P n ops H0 ⟨dst,.call {callee:=.builtin .unsafeString,args:= #[x,y],argTypes:= #[t,t']},ty,ps,af,none⟩ l I K:=
 λay=>Does.unsafeString U U ht hce (aG hx) (aG hy) (ay.at_ h2) hl hls ⟨_,(ay.kill h2).1,(ay.kill h2).2,hk⟩
theorem Z.b2s(ht:P.underlying t=some (.slice e))(he:P.underlying e=some (.int .u8))(hd:P.underlying t2=some .string)(hx:aT l x=some (.sl (bJ s))):QS P n ops H0 ⟨dst,.convert t t2 x,ty,ps,af,none⟩ l I (.v (.string s)):=λ_=>Does.QQ U U ht he hd (aG hx) ⟨rfl,rfl⟩
theorem Z.s2b(ht:P.underlying t=some .string)(hd:P.underlying t2=some (.slice e))(he:P.underlying e=some (.int .u8))(hx:aT l x=some (.v (.string s)))(hm:s.size<=140737488355328):QS P n ops H0 ⟨dst,.convert t t2 x,ty,ps,af,none⟩ l I (.sl (bJ s)):=λ_=>Does.QR U U ht hd he (aG hx) hm ⟨rfl,rfl⟩
theorem D.alp{zs:List Value}{zv:Value}(hz:(P.info? e).map (·.zero)=some (some zv))(hzs:zv.cells.toList=zs)(hv:vals zs=some us)(hk:∀id,K (.ptr id 0) ((id,.box e us)::I))(hc:zs.all (·.oneCell')=true:=by rfl):DS P n ops H0 ⟨dst,.alloc e,ty,ps,af,none⟩ l I K:=by
 subst hzs
 exactλhd=>Does.alloc U U hz hc λid hid=>⟨(id,.box e us)::I,by rw[<-qc hv];rfl,.cons hid hd,hk id⟩
end
end
end Go.fT
end
section
namespace Go.Proofs.YtonpfomjoiaacaaGreatDoor
open Go Go.fT Go.RowKit
theorem PS:dY Tryz.prog 139=some (false,1):=by kernel_rfl
theorem Dl:dY Tryz.prog 169=some (false,1):=by kernel_rfl
theorem iL:dY Tryz.prog 108=some (false,1):=by kernel_rfl
theorem jo:dY Tryz.prog 203=some (false,1):=by kernel_rfl
theorem Br:dY Tryz.prog 205=some (true,8):=by kernel_rfl
theorem Tn:dY Tryz.prog 107=some (false,1):=by kernel_rfl
theorem Zw:dY Tryz.prog 207=some (true,10):=by kernel_rfl
theorem K6:dY Tryz.prog 243=some (true,64):=by kernel_rfl
theorem iB:j6 Tryz.prog 109=some (108,1,4):=by kernel_rfl
theorem K7:j6 Tryz.prog 241=some (22,1,24):=by kernel_rfl
theorem sl247:j6 Tryz.prog 247=some (203,1,4):=by kernel_rfl
theorem z22:(Tryz.prog.info? 22).map (·.zero)=some (some (.slice none 0 0)):=by kernel_rfl
theorem z23:(Tryz.prog.info? 23).map (·.zero)=some (some (.slice none 0 0)):=by kernel_rfl
theorem z141:(Tryz.prog.info? 141).map (·.zero)=some (some (.agg #[.pointer none,.slice none 0 0])):=by kernel_rfl
theorem z108:(Tryz.prog.info? 108).map (·.zero)=some (some (.int .u32 0)):=by kernel_rfl
theorem VD:(Tryz.prog.info? 205).map (·.zero)=some (some (.agg #[.int .u32 0,.int .u32 0,.int .u32 0,.int .u32 0,.int .u32 0,.int .u32 0,.int .u32 0,.int .u32 0])):=by kernel_rfl
theorem z207:(Tryz.prog.info? 207).map (·.zero)=some (some (.agg #[.int .u32 0,.int .u32 0,.int .u32 0,.int .u32 0,.int .u32 0,.int .u32 0,.int .u32 0,.int .u32 0,.slice none 0 0,.int .u64 0])):=by kernel_rfl
theorem Tp:(Tryz.prog.info? 243).map (·.zero)=some (some (.agg #[.int .u32 0,.int .u32 0,.int .u32 0,.int .u32 0,.int .u32 0,.int .u32 0,.int .u32 0,.int .u32 0,.int .u32 0,.int .u32 0,.int .u32 0,.int .u32 0,.int .u32 0,.int .u32 0,.int .u32 0,.int .u32 0,.int .u32 0,.int .u32 0,.int .u32 0,.int .u32 0,.int .u32 0,.int .u32 0,.int .u32 0,.int .u32 0,.int .u32 0,.int .u32 0,.int .u32 0,.int .u32 0,.int .u32 0,.int .u32 0,.int .u32 0,.int .u32 0,.int .u32 0,.int .u32 0,.int .u32 0,.int .u32 0,.int .u32 0,.int .u32 0,.int .u32 0,.int .u32 0,.int .u32 0,.int .u32 0,.int .u32 0,.int .u32 0,.int .u32 0,.int .u32 0,.int .u32 0,.int .u32 0,.int .u32 0,.int .u32 0,.int .u32 0,.int .u32 0,.int .u32 0,.int .u32 0,.int .u32 0,.int .u32 0,.int .u32 0,.int .u32 0,.int .u32 0,.int .u32 0,.int .u32 0,.int .u32 0,.int .u32 0,.int .u32 0])):=by kernel_rfl
theorem uK:jE Tryz.prog 109 108 1 4:=⟨iB,⟨_,z108,rfl,rfl⟩,by decide,by decide⟩
theorem Z7:jE Tryz.prog 241 22 1 24:=⟨K7,⟨_,z22,rfl,rfl⟩,by decide,by decide⟩
theorem Ih:dE Tryz.prog 141 0=some 0:=by kernel_rfl
theorem Ak:dE Tryz.prog 141 1=some 1:=by kernel_rfl
theorem Ny:dE Tryz.prog 207 0=some 0:=by kernel_rfl
theorem Nz:dE Tryz.prog 207 1=some 8:=by kernel_rfl
theorem NA:dE Tryz.prog 207 2=some 9:=by kernel_rfl
theorem bt207:ny Tryz.prog 207=some ([.int .u32 0,.int .u32 0,.int .u32 0,.int .u32 0,.int .u32 0,.int .u32 0,.int .u32 0,.int .u32 0,.slice none 0 0,.int .u64 0],[(0,8),(8,1),(9,1)]):=by kernel_rfl
def aN(c:Int):ByteArray:=⟨#[UInt8.ofNat c.toNat]⟩
theorem uL(a b:ByteArray):bJ (a++b)=bJ a++bJ b:=by
 unfold bJ
 rw[<-List.map_append]
 congr 1
theorem aV(c:Int):(aN c).size=1:=rfl
theorem nQ{c:Int}(h0:0<=c)(h1:c<256):bJ (aN c)=[[.v (.int .u8 c)]]:=by
 unfold bJ aN
 simp only[List.map_cons,List.map_nil]
 have e:(((UInt8.ofNat c.toNat).toNat:Nat):Int)=c:=by
  rw[UInt8.toNat_ofNat',Nat.mod_eq_of_lt (by omega)];omega
 rw[e]
theorem aZ(a b:ByteArray):(a++b).size=a.size+b.size:=by simp
def vT(p r:Nat)(a:AV)(s:ByteArray):List (Nat×Ob):=[(r,.row 5 1 (bJ s)),(p,.box 141 [a,.own r 0 s.size 1])]
def Adr(p:Nat)(a:AV):Prop:=a=.v (.pointer none)\/a=.ptr p 0
def Z8(p:Nat)(s:ByteArray)(u v:AV)(news:List (Nat×Ob)):Prop:=v=u/\∃r,news=vT p r (.ptr p 0) s
theorem uM(p r:Nat)(a:AV)(ha:Adr p a)(s:ByteArray)(G:Hp)(hd:aM G (vT p r a s)):au Tryz.prog 188 [.ptr p 0] (aC G (vT p r a s)) (λu H'=>∃news,aM G news/\H'=aC G news/\(u=.kM []/\news=vT p r (.ptr p 0) s)):=by
 unfold vT at hd⊢
 have hd2:aM G [(r,.row 5 1 (bJ s)),(p,.box 141 [.ptr p 0,.own r 0 s.size 1])]:=hd.jF (k:=1) _ U|>.2
 rcases ha with rfl|rfl
 ·refine aF (n:=20) (H0:=G) (I:=[(r,.row 5 1 (bJ s)),(p,.box 141 [.v (.pointer none),.own r 0 s.size 1])]) Tryz.func188 (by kernel_rfl) U (by rw[Tryz.ntmps188];rfl) hd<|?_
  refine Q.rg<|Q.mv U<|S.qu (Z.nN U)<|Q.fa Ih U<|Q.lc 1 PS U U U<|S.qu (Z.pnt Tryz.underlying139 U)<|Q.nt<|S.cT U U<|S.rg<|Q.mv U<|Q.mv U<|S.qu (Z.tou 1 Tryz.underlying139 Tryz.underlying216 U U (by simp))<|?_
  refine S.qu (Z.nox Tryz.func229 U U)<|S.qu (Z.fru 1 Tryz.underlying216 Tryz.underlying139 U U U)<|S.qu (Z.nN U)<|Q.fa Ih U<|S.s<|D.st 1 PS U U U U U U U U λ_=>US.nil<|?_
  exact retN [_,_] (λ_=>KQ U) (.refl _) λhd=>⟨_,hd,rfl,rfl,rfl⟩
 ·refine aF (n:=20) (H0:=G) (I:=[(r,.row 5 1 (bJ s)),(p,.box 141 [.ptr p 0,.own r 0 s.size 1])]) Tryz.func188 (by kernel_rfl) U (by rw[Tryz.ntmps188];rfl) hd<|?_
  refine Q.rg<|Q.mv U<|S.qu (Z.nN U)<|Q.fa Ih U<|Q.lc 1 PS U U U<|S.qu (Z.pnf Tryz.underlying139 U)<|Q.nt<|S.cF U U<|Q.rg<|Q.mv U<|S.qu (Z.nN U)<|Q.fa Ih U<|Q.lc 1 PS U U U<|Q.mv U<|S.qu (Z.pne Tryz.underlying139 U U)<|Q.nt<|S.cF U U<|UW.skip<|?_
  exact retN [_,_] (λ_=>KQ U) (.refl _) λhd=>⟨_,hd,rfl,rfl,rfl⟩
theorem oP(p r:Nat)(a:AV)(ha:Adr p a)(s:ByteArray)(hs:s.size<=100000000000000)(c:Int)(h0:0<=c)(h1:c<256)(G:Hp)(hd:aM G (vT p r a s)):au Tryz.prog 141 [.ptr p 0,.v (.int .u8 c)] (aC G (vT p r a s)) (λu H'=>∃news,aM G news/\H'=aC G news/\Z8 p (s++aN c) (.v .nilIface) u news):=by
 have hcc:=λG hd=>uM p r a ha s G hd
 have hl:=fF s
 have hrw:(bJ s).take s.size++[[.v (.int .u8 c)]]=bJ (s++aN c):=by rw[uL,nQ h0 h1,List.take_of_length_le (by omega)]
 have hsz:s.size+1=(s++aN c).size:=by rw[aZ,aV]
 unfold vT at hd hcc⊢
 refine aF (n:=17) (H0:=G) (I:=[(r,.row 5 1 (bJ s)),(p,.box 141 [a,.own r 0 s.size 1])]) Tryz.func141 (by kernel_rfl) U (by rw[Tryz.ntmps141];rfl) hd<|?_
 refine Q.rg<|Q.as U<|Q.nt<|Q.rg<|Q.mv U<|S.dd<|D.co (.cons 0 U (.cons 0 U .nil)) U U (λG hD=>hcc G hD)<|?_
 rintro _ _ ⟨rfl,rfl⟩
 refine Q.nt<|Q.rg<|Q.mv U<|Q.mv U<|S.qu (Z.nN U)<|Q.fa Ak U<|Q.lc 1 De U U U<|Q.mv U<|S.qu (Z.bl iK U U (bA U))<|S.dd<|D.ap 0 iK U U (by omega) U (.sl (j3 U)) (by first|omega|(simp;omega)) hrw λp14=>?_
 refine S.qu (Z.nN U)<|Q.fa Ak U<|S.s<|D.st 1 De U U U U U U U U λ_=>Q.nt<|Q.rg<|Q.as U<|Q.nt<|UW.ret<|?_
 exact bN [_,_] (λ_=>ak U U) (.refl _) λhd=>⟨_,hd,rfl,rfl,_,by unfold vT;rw[<-hsz];rfl⟩
theorem Al(p r:Nat)(a:AV)(ha:Adr p a)(s:ByteArray)(hs:s.size<=100000000000000)(t:ByteArray)(ht:t.size<=10000000000000)(G:Hp)(hd:aM G (vT p r a s)):au Tryz.prog 143 [.ptr p 0,.v (.string t)] (aC G (vT p r a s)) (λu H'=>∃news,aM G news/\H'=aC G news/\Z8 p (s++t) (.kM [.v (.int .i64 (t.size:Int)),.v .nilIface]) u news):=by
 have hcc:=λG hd=>uM p r a ha s G hd
 have hl:=fF s
 have hrw:(bJ s).take s.size++bJ t=bJ (s++t):=by rw[uL,List.take_of_length_le (by omega)]
 have hsz:s.size+t.size=(s++t).size:=by rw[aZ]
 unfold vT at hd hcc⊢
 refine aF (n:=19) (H0:=G) (I:=[(r,.row 5 1 (bJ s)),(p,.box 141 [a,.own r 0 s.size 1])]) Tryz.func143 (by kernel_rfl) U (by rw[Tryz.ntmps143];rfl) hd<|?_
 refine Q.rg<|Q.as U<|Q.as U<|Q.nt<|Q.rg<|Q.mv U<|S.dd<|D.co (.cons 0 U (.cons 0 U .nil)) U U (λG hD=>hcc G hD)<|?_
 rintro _ _ ⟨rfl,rfl⟩
 refine Q.nt<|Q.rg<|Q.mv U<|Q.mv U<|S.qu (Z.nN U)<|Q.fa Ak U<|Q.lc 1 De U U U<|Q.mv U<|S.dd<|D.aps 0 iK z5 Tryz.underlying9 U U (by omega) U (by omega) hrw λp14=>S.qu (Z.nN U)<|Q.fa Ak U<|S.s<|D.st 1 De U U U U U U U U λ_=>Q.nt<|Q.rg<|Q.mv U<|S.qu (Z.wP Tryz.underlying9 U)<|Q.as U<|Q.as U<|Q.nt<|UW.ret<|?_
 exact bN [_,_] (λhd=>fJ U (bE U) (bE U)) (.refl _) λhd=>⟨_,hd,rfl,rfl,_,by unfold vT;rw[<-hsz]⟩
theorem uN(p r:Nat)(a:AV)(s:ByteArray)(hs:0<s.size)(hm:s.size<=100000000000000)(G:Hp)(hd:aM G (vT p r a s)):au Tryz.prog 144 [.ptr p 0] (aC G (vT p r a s)) (λu H'=>∃news,aM G news/\H'=aC G news/\(u=.v (.string s)/\news=[])):=by
 have hl:=fF s
 unfold vT at hd⊢
 refine aF (n:=14) (H0:=G) (I:=[(r,.row 5 1 (bJ s)),(p,.box 141 [a,.own r 0 s.size 1])]) Tryz.func144 (by kernel_rfl) U (by rw[Tryz.ntmps144];rfl) hd<|?_
 refine Q.rg<|Q.as U<|Q.nt<|S.sq<|?_
 refine' UW.Gl (by kernel_rfl) [1] [0,1,3,7,15,0,32,96,224,480,1023,2047] [some 3,some 4,some 5,some 6,none,some 8,some 9,some 10,some 11,some 12,none,none] [some (3,_),some (4,_),some (5,_),some (6,_),none,some (8,_),some (9,_),some (10,_),some (11,_),some (12,_),none,none] [4,10,11] [3] U (by decide) (by decide) (M.free (by decide) U U ?lZ (M.free (by decide) U U ?l5 (M.free (by decide) U U ?l6 (M.held (by decide) U U ?l7 (M.skip (M.free (by decide) U U ?oQ (M.free (by decide) U U ?oU (M.free (by decide) U U ?oV (M.kept (by decide) U U ?xy (M.free (by decide) U U ?xz (M.skip (M.skip M.nil)))))))))))) ?Am
 case lZ=>(intro _;exact Z.mv rfl)
 case l5=>(intro _;exact Z.nN rfl)
 case l6=>(intro _;exact Z.fa Ak rfl)
 case l7=>exact Z.di 1 De rfl rfl rfl
 case oQ=>(intro _;exact Z.mv rfl)
 case oU=>(intro _;exact Z.nN rfl)
 case oV=>(intro _;exact Z.fa Ak rfl)
 case xy=>(intro _ hK;exact Z.kc 0 hK De rfl rfl rfl)
 case xz=>(intro _;exact Z.M8 bR rfl)
 refine CH.cons U U (by decide) ?_ (.c 1 U .n)
 refine D.qu (Z.usd 0 U U (by omega))<|?_
 refine CH.cons U U (by decide) ?_ (.c 1 U .n)
 refine D.ust 0 Tryz.underlying181 (by kernel_rfl) U U U (by omega) (by omega)<|?_
 refine CH.cons U U (by decide) ?_ (.c 0 U .n)
 refine D.qu (Z.as U)<|?_
 refine CH.nil ?_ (.c 0 U .n)
 simp only[app,bV]
 refine UQ.then<|UW.ret<|?_
 exact bN [] (λ_=>ak U U) (List.nil_sublist _) λhd=>⟨[],.nil,rfl,rfl,rfl⟩
end Go.Proofs.YtonpfomjoiaacaaGreatDoor
end
