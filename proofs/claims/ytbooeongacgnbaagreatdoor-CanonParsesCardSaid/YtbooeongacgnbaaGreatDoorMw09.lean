/- A part of the proof. -/
import Derived.Test.YtbooeongacgnbaaGreatDoorMw08
import Derived.Lib.UnsafeStr
import Derived.Lib.ConvBytes
import Derived.Lib.Builder
import Derived.Lib.LaidTab
import Derived.Laws.Pointers
import Derived.Laws.IdiomStrings
import Derived.Laws.BytesArg
import Derived.Test.YtbooeongacgnbaaGreatDoorMw07
set_option maxRecDepth 100000
set_option maxHeartbeats 4000000
set_option linter.unusedSectionVars false
set_option linter.unusedVariables false
set_option linter.unusedSimpArgs false
section
namespace Go.gW
open Go Go.Lib Go.RowKit
section
variable [Rd]
theorem mG(s:ByteArray):s.data.toList.length=s.size:=by rw[Array.length_toList];rfl
def aU(s:ByteArray):List (List AV):=s.data.toList.map λb=>[.v (.int .u8 b.toNat)]
theorem eF(s:ByteArray):(aU s).length=s.size:=by unfold aU;rw[List.length_map];rfl
theorem Jb(s:ByteArray):∀cs∈aU s,cs.length=1:=by
 intro cs h
 obtain⟨b,_,rfl⟩:=List.mem_map.1 h
 rfl
theorem pO(s:ByteArray):(aU s).flatten=s.data.toList.map λb=>AV.v (.int .u8 b.toNat):=by
 unfold aU
 induction s.data.toList with
 |nil=>rfl
 |cons b r ih=>simp only[List.map_cons,List.flatten_cons,ih];rfl
theorem Gt{ok:Nat->Prop}{ρ:fK}{w:World}(s:ByteArray):aZ ok ρ w (aU s).flatten (strCells s):=by
 rw[pO]
 have:=kz (ok:=ok) (ρ:=ρ) (w:=w) (strCells s) (List.all_eq_true.2 (strCells_oneCell s))
 unfold strCells at this⊢
 rwa [List.map_map] at this
section
variable {P:Program} {n:Nat} {T:Sl} {H:Hp} {ops:Array Oper} {o:Oper} {K:AV->Hp->Prop}
theorem Does.Jc{t t' e:Nat}{s x:Operand}{id len:Nat}{rows:List (List AV)}{str:ByteArray}(hg:o.guard=none)(ho:o.op=.call {callee:=.builtin .append,args:= #[s,x],argTypes:= #[t,t']})(ht:kC P t e 1 1)(Yd:(P.info? e).map (·.zero)=some (some (.int .u8 0)))(hu:P.underlying t'=some .string)
 (hs:ev T s=.own id 0 len 1) (h2:H id=some (.row e 1 rows)) (hle:len<=rows.length) (hx:ev T x=.v (.string str)) (hb:len+str.size<=140737488355328)
 (hk:∀id',H id'=none->K (.own id' 0 (len+str.size) 1) (set (set H id none) id' (some (.row e 1 (rows.take len++aU str))))):Does P n ops o T H K:=by
 intro a w ρ h1 hd h3 h4 N Q hN
 rw[if_pos (by simp[Region.wanted,hg])]
 have hr:=iA h4
 have h5:=hr s
 rw[hs] at h5
 have ZH:=hr x
 rw[hx] at ZH
 have hxv:=aP ZH
 obtain⟨v0,hv0,hz,inner,how,hl,hc⟩:=h3.ob _ _ h2
 have hcut:∃v,a.eval s=v/\w.ownsRow 0 e 1 v len (inner.take len)/\blk v=blk v0/\v.ownBlock=v0.ownBlock:=by
  generalize a.eval s=xx at h5
  have hil:inner.length=rows.length:=by have:=how.1;omega
  cases h5 with
  |lQ _ _ hv=>
   rw[hv0] at hv;cases hv
   exact⟨_,rfl,⟨by simp,.inl ⟨rfl,rfl⟩⟩,rfl,rfl⟩
  |ny _ _ _ g m c o' c' hv h0 _=>exact absurd U h0
  |own _ _ _ _ g m cap hv DU hmax=>
   rw[hv0] at hv;cases hv
   rcases how.2 with ⟨h6,_⟩|⟨g',cap',cur,h6,_,hg',h7,h8,h9,h10⟩
   ·cases h6
   ·cases h6
    refine⟨_,rfl,⟨by rw[List.length_take,hil];omega,.inr ⟨g,cap,cur,by simp,Nat.zero_le _,hg',by omega,h8,h9,?_⟩⟩,by simp[blk],by simp[Value.ownBlock]⟩
    rw[<-h10,List.take_take]
    congr 1
    omega
 obtain⟨v,hv,hown,hbv,hov⟩:=hcut
 obtain⟨hut,_,i,hi,hsi,hbi⟩:=gy ht.sl
 have hzi:i.zero=some (.int .u8 0):=by rw[hi] at Yd;simpa using Yd
 have BM:len+str.size<=maxLen:=by simp only[maxLen];omega
 obtain⟨v',w',hrun,hown',hgr,hnil⟩:=run_append_own_string (P:=P) w 0 t t' o.type e i hut hu hi hzi hsi hbi v len (inner.take len) hown str BM hb (Nat.zero_le _)
 have hat:v'.ownBlock=v.ownBlock\/v'.ownBlock=some w.heap.size:=by
  have hxl:(inner.take len).length=len:=by simpa using hown.1
  rcases hown.2 with ⟨rfl,rfl⟩|⟨g,cap,cur,rfl,hbg,hg',hnc,hcm,hcs,htake⟩
  ·by_cases hm:str.size=0
   ·exact .inl (by rw[hnil.2 ⟨rfl,hm⟩])
   ·have hr2:=run_append_nil_string (P:=P) w t t' o.type e i (.int .u8 0) hut hu hi hzi str (by omega) (by omega) (by rw[hbi];omega)
    rw[hr2] at hrun
    cases hrun
    exact .inr U
  ·by_cases hroom:len+str.size<=cap
   ·have hr2:=run_append_room_string (P:=P) w t t' o.type e i hut hu hi hsi g len cap cur hg' str hroom (by omega)
    rw[hr2] at hrun
    cases hrun
    exact .inl U
   ·have holds:∀j u,(inner.take len)[j]? =some u->w.cell? ((⟨g,0,none⟩:Addr).add j)=some u:=hown.cells (g:=g) U
    have hr2:=run_append_grow_string (P:=P) w t t' o.type e i (.int .u8 0) hut hu hi hzi ⟨g,0,none⟩ len cap (inner.take len) (by rw[hsi];omega) holds str (by omega) (by omega) (by rw[hbi];exact growslice_fits (by omega) (by omega))
    rw[hr2] at hrun
    cases hrun
    exact .inr U
 have hsl:=l5 hown
 have Nw:=l5 hown'
 have htk:aZ (bK ρ H) ρ w (rows.take len++aU str).flatten (inner.take len++strCells str):=by
  rw[List.flatten_append,fU 1 _ _ hl]
  refine gP ?_ (Gt str)
  have:=fT hc 0 (len*1)
  simpa using this
 obtain⟨id',ρ',e1,e2,e3,e4,e5⟩:=h3.move (w':=w') (v:=v') (.row e 1 (rows.take len++aU str)) h2 hv0 hgr.os hgr.tape hgr.output hgr.size
  (λk hk hn=>hgr.block k hk (λhe=>hn (by rw[<-hbv];exact(pE hsl).2 he.symm)))
  (λk hk=>⟨by
    have hk':=(pE Nw).1 hk
    rcases hat with hat|hat
    ·left;rw[<-hbv];exact(pE hsl).2 (by rw[<-hat];exact hk')
    ·right;rw[hat] at hk';cases hk';exact Nat.le_refl _,IZ hown' hk⟩)
  (λρ' H' e'=>⟨hz,inner.take len++strCells str,by
    have:(rows.take len++aU str).length=len+str.size:=by rw[List.length_append,eF,List.length_take];omega
    rw[this];exact hown',λcs hcs=>by
     rcases List.mem_append.1 hcs with h6|h6
     ·exact hl cs (List.mem_of_mem_take h6)
     ·exact Jb str cs h6,e'.cells htk⟩)
 unfold Oper.wp
 rw[rf ho (by rw[hv,hxv];exact hrun)]
 exact hN v' w' ρ' _ _ e4 e5 (qV hown' e3) (hk id' e2)
theorem jg{ok:Nat->Prop}{ρ:fK}{w:World}{id off:Nat}{x:Value}(h:dL ok ρ w (.ptr id off) x):∃g v,x=.pointer (some ⟨g,off,none⟩)/\ρ id=some v/\(v=.pointer (some ⟨g,0,none⟩)\/∃n cap,v=.slice (some ⟨g,0,none⟩) n cap):=by
 cases h with
 |ptr _ _ g v hv hx=>exact⟨g,v,rfl,hv,hx⟩
theorem Does.nilCheck{x:Operand}{id off:Nat}(hg:o.guard=none)(ho:o.op=.nilCheck x)(hx:ev T x=.ptr id off)(hk:K (.ptr id off) H):Does P n ops o T H K:=by
 refine Does.val _ hg (λac w ρ hh hr=>?_) hk
 have h3:=hr x
 rw[hx] at h3
 obtain⟨g,v,e,_,_⟩:=jg h3
 refine⟨ac.eval x,?_,h3⟩
 unfold execOp
 rw[ho]
 simp only[e,Sem.run_pure]
theorem ry{op:BinOp}{t:Nat}{x y:Operand}{p:Option Addr}{b:Value}{w:World}:(eqGuard op t x y (.pointer p) b).run P w=.ok () w:=by
 unfold eqGuard
 cases op<;>simp
theorem Does.Qd{t t2 e:Nat}{x:Operand}(hg:o.guard=none)(ho:o.op=.binOp .eql t x (.const (.pointer none)) t2)(ht:P.underlying t=some (.pointer e))(hx:ev T x=.v (.pointer none))(hk:K (.v (.bool true)) H):Does P n ops o T H K:=by
 refine Does.val _ hg (λac w ρ hh hr=>⟨_,dX ho ?_ ?_,.v _⟩) hk
 ·have h3:=hr x
  rw[hx] at h3
  rw[aP h3];exact ry
 ·have h3:=hr x
  rw[hx] at h3
  rw[aP h3]
  exact run_eql_pointer_nil w t _ (by unfold Program.pointee;rw[ht])
theorem Does.Qe{t t2 e:Nat}{x:Operand}{id off:Nat}(hg:o.guard=none)(ho:o.op=.binOp .eql t x (.const (.pointer none)) t2)(ht:P.underlying t=some (.pointer e))(hx:ev T x=.ptr id off)(hk:K (.v (.bool false)) H):Does P n ops o T H K:=by
 refine Does.val _ hg (λac w ρ hh hr=>⟨_,dX ho ?_ ?_,.v _⟩) hk
 ·have h3:=hr x
  rw[hx] at h3
  obtain⟨g,v,e,_,_⟩:=jg h3
  rw[e];exact ry
 ·have h3:=hr x
  rw[hx] at h3
  obtain⟨g,v,e,_,_⟩:=jg h3
  rw[e]
  exact run_eql_pointer_nil w t _ (by unfold Program.pointee;rw[ht])
theorem Does.Qf{t t2 e:Nat}{x y:Operand}{id off:Nat}{j:TypeInfo}(hg:o.guard=none)(ho:o.op=.binOp .neq t x y t2)(ht:P.underlying t=some (.pointer e))(hj:P.info? e=some j)(hx:ev T x=.ptr id off)(hy:ev T y=.ptr id off)(hk:K (.v (.bool false)) H):Does P n ops o T H K:=by
 refine Does.val _ hg (λac w ρ hh hr=>?_) hk
 have h3:=hr x
 have h4:=hr y
 rw[hx] at h3
 rw[hy] at h4
 obtain⟨g,v,e1,hv,hf⟩:=jg h3
 obtain⟨g',v',e2,hv',hf'⟩:=jg h4
 rw[hv] at hv'
 cases hv'
 have hgg:g'=g:=by
  rcases hf with rfl|⟨_,_,rfl⟩<;>rcases hf' with h|⟨_,_,h⟩<;>cases h<;>rfl
 subst hgg
 exact⟨_,dX ho (by rw[e1];exact ry) (by rw[e1,e2];exact run_neq_ptr_same w _ ht hj),.v _⟩
theorem Does.Md{s d e t0:Nat}{x:Operand}{id:Nat}{cells:List AV}{j:TypeInfo}(hg:o.guard=none)(ho:o.op=.convert s d x)(hs:P.underlying s=some (.pointer e))(hd:P.underlying d=some .unsafePointer)(hj:P.info? e=some j)(hj0:j.size≠0)(hx:ev T x=.ptr id 0)(h2:H id=some (.box t0 cells))(hc:cells≠[])(hk:K (.ptr id 0) H):Does P n ops o T H K:=by
 refine Does.val _ hg (λac w ρ hh hr=>?_) hk
 have h3:=hr x
 rw[hx] at h3
 obtain⟨g,vals,e1,hv,hgc,hrc⟩:=nA hh h2 h3
 refine⟨ac.eval x,?_,h3⟩
 have hl:0<vals.length:=by rw[<-hrc.1];exact List.length_pos_iff.2 hc
 have:=run_to_unsafe (P:=P) w (src:=s) (dst:=d) ⟨g,0,none⟩ hs hd hj hj0 (cells:=vals.length) (e:=t0) (by simp[World.shape?,hgc]) hl
 unfold execOp
 rw[ho]
 simp only[e1,Sem.run_bind,this,Result.andThen_ok,Sem.run_pure]
theorem Does.Gu{s d e t0:Nat}{x:Operand}{id:Nat}{cells:List AV}{j:TypeInfo}(hg:o.guard=none)(ho:o.op=.convert s d x)(hs:P.underlying s=some .unsafePointer)(hd:P.underlying d=some (.pointer e))(hj:P.info? e=some j)(hl:liesAt P P.depth t0 (cells.length/P.cellsOf t0) 0 e 1=true)(hx:ev T x=.ptr id 0)(h2:H id=some (.box t0 cells))(hk:K (.ptr id 0) H):Does P n ops o T H K:=by
 refine Does.val _ hg (λac w ρ hh hr=>?_) hk
 have h3:=hr x
 rw[hx] at h3
 obtain⟨g,vals,e1,hv,hgc,hrc⟩:=nA hh h2 h3
 refine⟨ac.eval x,?_,h3⟩
 have:=run_from_unsafe (P:=P) w (src:=s) (dst:=d) ⟨g,0,none⟩ hs hd hj (cells:=vals.length) (e:=t0) (by simp[World.shape?,hgc]) (by rw[<-hrc.1];exact hl)
 unfold execOp
 rw[ho]
 simp only[e1,Sem.run_bind,this,Result.andThen_ok,Sem.run_pure]
theorem Does.NQ{f:Nat}{fn:Func}{cc x:Operand}{at_:Array TypeId}{u:AV}(hg:o.guard=none)(ho:o.op=.call {callee:=.value cc,args:= #[x],argTypes:=at_})(hf:P.funcs[f]? =some fn)(hname:(fn.name== "runtime.NumGoroutine")=false)(hb:fn.body.isNone=true)(hn:Extern.findNext fn=none)(he:Extern.find fn=some Extern.AbiNoEscape.same)
 (hc:ev T cc=.lW f []) (hx:ev T x=u) (hk:K u H):Does P n ops o T H K:=by
 refine Does.val _ hg (λac w ρ hh hr=>?_) hk
 have h3:=hr x
 have h4:=hr cc
 rw[hx] at h3
 rw[hc] at h4
 obtain⟨vs,hcv,hvs⟩:=zl h4
 have NI:vs=[]:=List.eq_nil_of_length_eq_zero (by simpa using hvs.1.symm)
 subst NI
 refine⟨ac.eval x,?_,h3⟩
 have h8:=run_callFunc_extern (P:=P) hf hname hb hn he #[ac.eval x] w
 rw[run_noEscape] at h8
 unfold execOp
 rw[ho]
 generalize ac.eval=ev' at hcv h3 h8⊢
 simp only[resolve,Deferred.ofValue,hcv,invoke,Sem.run_bind,Sem.run_pure,Result.andThen_ok,List.map_toArray,List.map_cons,List.map_nil]
 simpa using h8
theorem dG.kill{ρ:fK}{w w':World}{id:Nat}{v:Value}{PW:Ob}(h:dG ρ H w)(h0:H id=some PW)(hr:ρ id=some v)(hos:w'.os=w.os)(zG:w'.tape=w.tape)(hout:w'.output=w.output)(hsize:w.heap.size<=w'.heap.size)(hch:∀k,k<w.heap.size->blk v≠some k->w'.heap[k]? =w.heap[k]?):
 dG ρ (set H id none) w'/\Ext ρ H w ρ (set H id none) w':=by
 have hsub:Sub (set H id none) H:=λi ob hi=>by
  by_cases hj:i=id
  ·subst hj;rw[set_self] at hi;cases hi
  ·rwa [dV _ _ hj] at hi
 have e:Ext ρ H w ρ (set H id none) w':=⟨hos,zG,hout,hsize,λk hk hn=>hch k hk (λhe=>hn ⟨id,PW,v,h0,hr,he⟩),λk hk=> .inl (DL hsub hk),λ_ _ h=>h⟩
 refine⟨⟨λi ob hi=>?_,λi i' o o' v v' k a b=>h.apart i i' o o' v v' k (hsub i o a) (hsub i' o' b),h.room,λi v k a b=>Nat.lt_of_lt_of_le (h.lt i v k a b) hsize⟩,e⟩
 have hi2:=hsub i ob hi
 have hne:i≠id:=λhe=>by subst he;rw[set_self] at hi;cases hi
 obtain⟨v',hv',jd⟩:=h.ob i ob hi2
 exact⟨v',hv',jd.ext e λk hk=>hch k (h.lt i v' k hv' hk) λhe=>hne (h.apart i id ob PW v' v k hi2 h0 hv' hr hk he)⟩
theorem dG.below{ρ:fK}{w w':World}(h:dG ρ H w)(hb:Below w.heap.size w w'):dG ρ H w'/\Ext ρ H w ρ H w':=by
 have e:Ext ρ H w ρ H w':=⟨hb.os,hb.tape,hb.output,hb.size,λk hk _=>hb.block k hk,λk hk=> .inl hk,λ_ _ h=>h⟩
 exact⟨⟨λi ob hi=>by
  obtain⟨v,hv,jd⟩:=h.ob i ob hi
  exact⟨v,hv,jd.ext e λk hk=>hb.block k (h.lt i v k hv hk)⟩,h.apart,h.room,λi v k a b=>Nat.lt_of_lt_of_le (h.lt i v k a b) hb.size⟩,e⟩
theorem z8{a:Act}{w w':World}{x:Operand}{t:TypeId}{v':Value}(ho:o.op=.call {callee:=.builtin .unsafeSliceData,args:= #[x],argTypes:= #[t]})
 (h:(Builtin.unsafeSliceData_ #[t] o.type #[a.eval x]).run P w=.ok v' w'):(execOp a.eval o).run P w=.ok (.value v') w':=by
 unfold execOp
 rw[ho]
 simp only[resolve,List.map_toArray,List.map_cons,List.map_nil,Sem.run_bind,Sem.run_pure,Result.andThen_ok,invoke,builtin,h]
theorem Aa{a:Act}{w w':World}{x y:Operand}{t t':TypeId}{v':Value}(ho:o.op=.call {callee:=.builtin .unsafeString,args:= #[x,y],argTypes:= #[t,t']})
 (h:(Builtin.unsafeString_ #[t,t'] o.type #[a.eval x,a.eval y]).run P w=.ok v' w'):(execOp a.eval o).run P w=.ok (.value v') w':=by
 unfold execOp
 rw[ho]
 simp only[resolve,List.map_toArray,List.map_cons,List.map_nil,Sem.run_bind,Sem.run_pure,Result.andThen_ok,invoke,builtin,h]
theorem Does.sliceData{t e sz:Nat}{x:Operand}{id len:Nat}{rows:List (List AV)}(hg:o.guard=none)(ho:o.op=.call {callee:=.builtin .unsafeSliceData,args:= #[x],argTypes:= #[t]})(hx:ev T x=.own id 0 len sz)(h2:H id=some (.row e sz rows))(hl:0<len)(hk:K (.ptr id 0) H):Does P n ops o T H K:=by
 refine Does.val _ hg (λac w ρ hh hr=>?_) hk
 have h3:=hr x
 rw[hx] at h3
 obtain⟨g,cap,cur,inner,q1,q2,q3,q4,_⟩:=Eb hh h2 h3 hl
 rw[Nat.zero_mul,Nat.sub_zero] at q2
 refine⟨.pointer (some ⟨g,0,none⟩),z8 ho ?_,.ptr id 0 g _ q1 (.inr ⟨_,_,rfl⟩)⟩
 rw[q2]
 exact run_unsafeSliceData_row w _ _ _ _ _ (by omega)
theorem Does.unsafeString{t t' e:Nat}{x y:Operand}{id len:Nat}{s:ByteArray}(hg:o.guard=none)(ho:o.op=.call {callee:=.builtin .unsafeString,args:= #[x,y],argTypes:= #[t,t']})(ht:P.underlying t=some (.pointer e))(hce:P.cellsOf e=1)(hx:ev T x=.ptr id 0)(hy:ev T y=.v (.int .i64 (len:Int)))(h2:H id=some (.row e 1 (aU s)))(hl:0<len)(hls:len=s.size)
 (hk:K (.v (.string s)) (set H id none)):Does P n ops o T H K:=by
 subst hls
 intro a w ρ h1 hd h3 h4 N Q hN
 rw[if_pos (by simp[Region.wanted,hg])]
 have h5:=iA h4 x
 have h6:=iA h4 y
 rw[hx] at h5
 rw[hy] at h6
 obtain⟨g,v,e1,hv,hf⟩:=jg h5
 obtain⟨v0,hv0,hz,inner,how,hrl,hc⟩:=h3.ob _ _ h2
 rw[hv0] at hv
 cases hv
 rw[eF] at how
 rcases how.2 with ⟨h7,h8⟩|⟨g',cap,cur,h7,_,hg',h8,h9,h10,h11⟩
 ·omega
 subst h7
 have hgg:g'=g:=by rcases hf with h|⟨_,_,h⟩<;>cases h;rfl
 subst hgg
 have hdl:s.data.toList.length=s.size:=mG s
 have hin:inner=strCells s:=by
  have h12:=hc.1
  rw[pO,List.length_map] at h12
  refine List.ext_getElem? λj=>?_
  by_cases hj:j<s.data.toList.length
  ·have Xc:=(hc.2 j (.v (.int .u8 (s.data.toList[j]).toNat)) (inner[j]'(by omega)) (by rw[pO,List.getElem?_map,List.getElem?_eq_getElem hj];rfl) (List.getElem?_eq_getElem (by omega))).1
   rw[List.getElem?_eq_getElem (by omega),aP Xc,strCells,List.getElem?_map,List.getElem?_eq_getElem hj];rfl
  ·rw[List.getElem?_eq_none (by omega),List.getElem?_eq_none (by rw[strCells_length];omega)]
 have hcell:∀j (b:UInt8),s.data.toList[j]? =some b->w.cell? ((⟨g',0,none⟩:Addr).add j)=some (.int .u8 b.toNat):=by
  intro j b hb
  have hj:=(List.getElem?_eq_some_iff.1 hb).1
  have Me:cur.toList[j]? =some (.int .u8 b.toNat):=by
   have:(cur.toList.take (s.size*1))[j]? =some (.int .u8 b.toNat):=by rw[h11,hin,strCells,List.getElem?_map,hb];rfl
   rw[List.getElem?_take,if_pos (by omega)] at this
   exact this
  rw[add_plain,Nat.zero_add]
  simp only[World.cell?,hg']
  simpa using Me
 have hrun:=run_unsafeString_row (P:=P) w t t' o.type e ht hce g' cur.size (by simp[World.shape?,hg']) s.data.toList (by intro h;rw[h] at hdl;simp at hdl;omega) (by rw[hdl];omega) (by rw[hdl];simp only[maxLen] at h9;omega) hcell
 rw[hdl] at hrun
 have hs':(⟨s.data.toList.toArray⟩:ByteArray)=s:=by rw[Array.toArray_toList]
 rw[hs'] at hrun
 unfold Oper.wp
 rw[Aa ho (by rw[e1,aP h6];exact hrun)]
 have hfz:∀k,k≠g'->(w.freeze ⟨g',0,none⟩ s.size).heap[k]? =w.heap[k]? :=λk hk=>by
  unfold World.freeze
  split
  ·rfl
  ·simp only[Array.getElem?_modify]
   rw[if_neg (λh=>hk h.symm)]
 have hw:=h3.kill (w':=w.freeze ⟨g',0,none⟩ s.size) h2 hv0 (by unfold World.freeze;split<;>rfl) (by unfold World.freeze;split<;>rfl) (by unfold World.freeze;split<;>rfl) (by unfold World.freeze;split<;>simp) (λk hk hn=>hfz k (λh=>hn (by simp[blk,h])))
 exact hN _ _ ρ _ _ hw.1 hw.2 (.v _) hk
theorem Jd{s:ByteArray}{j:Nat}(hj:j<s.size):(aU s)[j]? =some [.v (.int .u8 (s.data.toList[j]'(by rw[mG];exact hj)).toNat)]:=by
 unfold aU
 rw[List.getElem?_map,List.getElem?_eq_getElem (by rw[mG];exact hj)];rfl
theorem Does.Mf{t t2 e:Nat}{x:Operand}{s:ByteArray}(hg:o.guard=none)(ho:o.op=.convert t t2 x)(ht:P.underlying t=some (.slice e))(he:P.underlying e=some (.int .u8))(hd:P.underlying t2=some .string)(hx:ev T x=.sl (aU s))(hk:K (.v (.string s)) H):Does P n ops o T H K:=by
 refine Does.val _ hg (λac w ρ hh hr=>⟨.string s,?_,.v _⟩) hk
 have h3:=hr x
 rw[hx] at h3
 have hdl:s.data.toList.length=s.size:=mG s
 have key:(convert t t2 (ac.eval x)).run P w=.ok (.string s) w:=by
  generalize hrows:aU s=rows at h3
  generalize ac.eval x=z at h3
  cases h3 with
  |nil=>
   have h0:s.size=0:=by rw[<-eF,hrows];rfl
   have:=run_convert_bytes_nil (P:=P) w t e ht he 0 0 t2 hd
   rw[this]
   congr 2
   exact ByteArray.ext (by
    have:s.data.size=0:=h0
    have h1:s.data= #[]:=Array.eq_empty_of_size_eq_zero this
    rw[h1];rfl)
  |sl _ a cap sz vals hcap hmax hok hsz hc hr2=>
   have hl2:rows.length=s.data.toList.length:=by rw[<-hrows,eF,hdl]
   rw[hl2]
   have:=run_convert_bytes_back (P:=P) w t t2 e a cap s.data.toList ht he hd (λj hj=>by
    have hjs:j<s.size:=by omega
    have Ye:=Jd hjs
    rw[hrows] at Ye
    obtain⟨h4,_⟩:=hc j _ 0 Ye (by simp)
    have h5:=hr2 j _ 0 _ Ye U
    have hsz1:sz=1:=by have:=hsz _ (List.mem_of_getElem? Ye);simpa using this.symm
    subst hsz1
    rw[Nat.mul_one,Nat.add_zero] at h4
    exact h4.trans (congrArg some (aP h5)))
   rw[this,Array.toArray_toList]
 unfold execOp
 rw[ho]
 simp only[Sem.run_bind,key,Result.andThen_ok,Sem.run_pure]
theorem F.iU{f:Nat}{us:List AV}{r:Value}(hb:xK P f)(h:∀ρ w vals,dG ρ H w->IX (bK ρ H) ρ w us vals->Calls P f vals.toArray w λe w'=>e=.returned r/\Below w.heap.size w w'):F P f us H (bn H (.v r)):=
 ⟨hb,λρ w vals hh hr=>(h ρ w vals hh hr).mono λe w' ⟨he,hbl⟩=>by
   obtain⟨h1,h2⟩:=hh.below hbl
   exact⟨r,ρ,.v r,H,he,h1,h2,.v _,rfl,rfl⟩⟩
theorem dG.raw{ρ:fK}{w:World}{id g:Nat}{x:Obj}(h:dG ρ H w)(h0:H id=some (.raw g x)):w.heap[g]? =some x:=by
 obtain⟨v,_,jd⟩:=h.ob _ _ h0
 exact jd.2.2.1
end
section
variable {P:Program} {n:Nat} {ops:Array Oper} {H0:Hp} {l:List (Nat×AV)} {M aL:List (Nat×Ob)} {dst:Option Nat} {ty:TypeId} {ps:String} {af:Array Edge} {x y:Operand} {u r:AV} {t t2 t' e sz id off len k:Nat} {cells us:List AV} {rows:List (List AV)} {s str:ByteArray} {K:AV->List (Nat×Ob)->Prop}
theorem Z.iC(hx:bA l x=some (.ptr id off)):QS P n ops H0 ⟨dst,.nilCheck x,ty,ps,af,none⟩ l M (.ptr id off):=λ_=>Does.nilCheck U U (aJ hx) ⟨rfl,rfl⟩
theorem Z.pnt(ht:P.underlying t=some (.pointer e))(hx:bA l x=some (.v (.pointer none))):QS P n ops H0 ⟨dst,.binOp .eql t x (.const (.pointer none)) t2,ty,ps,af,none⟩ l M (.v (.bool true)):=λ_=>Does.Qd U U ht (aJ hx) ⟨rfl,rfl⟩
theorem Z.pnf(ht:P.underlying t=some (.pointer e))(hx:bA l x=some (.ptr id off)):QS P n ops H0 ⟨dst,.binOp .eql t x (.const (.pointer none)) t2,ty,ps,af,none⟩ l M (.v (.bool false)):=λ_=>Does.Qe U U ht (aJ hx) ⟨rfl,rfl⟩
theorem Z.pne(ht:P.underlying t=some (.pointer e))(hx:bA l x=some (.ptr id off))(hy:bA l y=some (.ptr id off))(hj:(P.info? e).isSome=true:=by kernel_rfl):QS P n ops H0 ⟨dst,.binOp .neq t x y t2,ty,ps,af,none⟩ l M (.v (.bool false)):=by
 obtain⟨j,hj⟩:=Option.isSome_iff_exists.1 hj
 exactλ_=>Does.Qf U U ht hj (aJ hx) (aJ hy) ⟨rfl,rfl⟩
theorem Z.tou{t0:Nat}(k:Nat)(hs:P.underlying t=some (.pointer e))(hd:P.underlying t2=some .unsafePointer)(hx:bA l x=some (.ptr id 0))(h2:M[k]? =some (id,.box t0 cells))(hc:cells≠[])(hj:(P.info? e).any (·.size !=0)=true:=by kernel_rfl):QS P n ops H0 ⟨dst,.convert t t2 x,ty,ps,af,none⟩ l M (.ptr id 0):=by
 cases hi:P.info? e with
 |none=>rw[hi] at hj;cases hj
 |some j=>
  rw[hi] at hj
  exactλhd0=>Does.Md U U hs hd hi (by simpa using hj) (aJ hx) (hd0.at_ h2) hc ⟨rfl,rfl⟩
theorem Z.fru{t0 m:Nat}(k:Nat)(hs:P.underlying t=some .unsafePointer)(hd:P.underlying t2=some (.pointer e))(hx:bA l x=some (.ptr id 0))(h2:M[k]? =some (id,.box t0 cells))(hm:cells.length=m)(hl:liesAt P P.depth t0 (m/P.cellsOf t0) 0 e 1=true:=by kernel_rfl)(hj:(P.info? e).isSome=true:=by kernel_rfl):QS P n ops H0 ⟨dst,.convert t t2 x,ty,ps,af,none⟩ l M (.ptr id 0):=by
 subst hm
 obtain⟨j,hj⟩:=Option.isSome_iff_exists.1 hj
 exactλhd0=>Does.Gu U U hs hd hj hl (aJ hx) (hd0.at_ h2) ⟨rfl,rfl⟩
theorem Z.nox{f:Nat}{fn:Func}{cc:Operand}{at_:Array TypeId}(hf:P.funcs[f]? =some fn)(hc:bA l cc=some (.lW f []))(hx:bA l x=some u)(hname:(fn.name== "runtime.NumGoroutine")=false:=by kernel_rfl)(hb:fn.body.isNone=true:=by kernel_rfl)(hn:Extern.findNext fn=none:=by kernel_rfl)(he:Extern.find fn=some Extern.AbiNoEscape.same:=by kernel_rfl):QS P n ops H0 ⟨dst,.call {callee:=.value cc,args:= #[x],argTypes:=at_},ty,ps,af,none⟩ l M u:=λ_=>Does.NQ U U hf hname hb hn he (aJ hc) (aJ hx) ⟨rfl,rfl⟩
theorem D.aps(k:Nat)(ht:kC P t e 1 1)(Yd:(P.info? e).map (·.zero)=some (some (.int .u8 0)))(hu:P.underlying t'=some .string)(hs:bA l y=some (.own id 0 len 1))(h2:M[k]? =some (id,.row e 1 rows))(hle:len<=rows.length)(hx:bA l x=some (.v (.string str)))(hb:len+str.size<=140737488355328){rws:List (List AV)}(hr:rows.take len++aU str=rws)
 (hk:∀id',K (.own id' 0 (len+str.size) 1) ((id',.row e 1 rws)::M.eraseIdx k)):DS P n ops H0 ⟨dst,.call {callee:=.builtin .append,args:= #[y,x],argTypes:= #[t,t']},ty,ps,af,none⟩ l M K:=
 λaD=>by
  subst hr
  have mD:=aD.kill h2
  refine Does.Jc U U ht Yd hu (aJ hs) (aD.at_ h2) hle (aJ hx) hb λid' hid=>⟨(id',.row e 1 (rows.take len++aU str))::M.eraseIdx k,?_,?_,hk id'⟩
  ·rw[mD.1];rfl
  ·have hne:id'≠id:=λhe=>by rw[he,aD.at_ h2] at hid;cases hid
   exact .cons (by rw[<-mD.1,dV _ _ hne];exact hid) mD.2
theorem Z.usd(k:Nat)(hx:bA l x=some (.own id 0 len sz))(h2:M[k]? =some (id,.row e sz rows))(hl:0<len):QS P n ops H0 ⟨dst,.call {callee:=.builtin .unsafeSliceData,args:= #[x],argTypes:= #[t]},ty,ps,af,none⟩ l M (.ptr id 0):=λhd=>Does.sliceData U U (aJ hx) (hd.at_ h2) hl ⟨rfl,rfl⟩
theorem D.ust(k:Nat)(ht:P.underlying t=some (.pointer e))(hce:P.cellsOf e=1)(hx:bA l x=some (.ptr id 0))(hy:bA l y=some (.v (.int .i64 (len:Int))))(h2:M[k]? =some (id,.row e 1 (aU s)))(hl:0<len)(hls:len=s.size)(hk:K (.v (.string s)) (M.eraseIdx k)):DS P n ops H0 ⟨dst,.call {callee:=.builtin .unsafeString,args:= #[x,y],argTypes:= #[t,t']},ty,ps,af,none⟩ l M K:=
 λaD=>Does.unsafeString U U ht hce (aJ hx) (aJ hy) (aD.at_ h2) hl hls ⟨_,(aD.kill h2).1,(aD.kill h2).2,hk⟩
theorem Z.PS(ht:P.underlying t=some (.slice e))(he:P.underlying e=some (.int .u8))(hd:P.underlying t2=some .string)(hx:bA l x=some (.sl (aU s))):QS P n ops H0 ⟨dst,.convert t t2 x,ty,ps,af,none⟩ l M (.v (.string s)):=λ_=>Does.Mf U U ht he hd (aJ hx) ⟨rfl,rfl⟩
theorem D.ZI{zs:List Value}{zv:Value}(hz:(P.info? e).map (·.zero)=some (some zv))(hzs:zv.cells.toList=zs)(hv:vals zs=some us)(hk:∀id,K (.ptr id 0) ((id,.box e us)::M))(hc:zs.all (·.oneCell')=true:=by rfl):DS P n ops H0 ⟨dst,.alloc e,ty,ps,af,none⟩ l M K:=by
 subst hzs
 exactλhd=>Does.alloc U U hz hc λid hid=>⟨(id,.box e us)::M,by rw[<-rW hv];rfl,.cons hid hd,hk id⟩
end
end
end Go.gW
end
section
namespace Go.Proofs.YtbooeongacgnbaaGreatDoor
open Go Go.gW Go.RowKit
theorem aF:eQ Tryz.prog 72=some (true,4):=by kernel_rfl
theorem Qg:eQ Tryz.prog 77=some (false,1):=by kernel_rfl
theorem xW:eQ Tryz.prog 62=some (false,1):=by kernel_rfl
theorem z72:(Tryz.prog.info? 72).map (·.zero)=some (some (.agg #[.string ⟨#[]⟩,.int .i64 0,.int .i64 0,.int .i64 0])):=by kernel_rfl
theorem z79:(Tryz.prog.info? 79).map (·.zero)=some (some (.agg #[.pointer none,.slice none 0 0])):=by kernel_rfl
theorem dO:dM Tryz.prog 72 0=some 0:=by kernel_rfl
theorem bB:dM Tryz.prog 72 1=some 1:=by kernel_rfl
theorem dz:dM Tryz.prog 72 2=some 2:=by kernel_rfl
theorem jm:dM Tryz.prog 72 3=some 3:=by kernel_rfl
theorem K5:dM Tryz.prog 79 0=some 0:=by kernel_rfl
theorem qI:dM Tryz.prog 79 1=some 1:=by kernel_rfl
theorem Ug:lD Tryz.prog 72=some ([.string ⟨#[]⟩,.int .i64 0,.int .i64 0,.int .i64 0],[(0,1),(1,1),(2,1),(3,1)]):=by kernel_rfl
theorem fM:∃fs,Tryz.prog.underlying 72=some (.struct fs):=⟨_,Tryz.underlying72⟩
theorem fO:(Tryz.prog.info? 72).map (·.size)=some 4:=by kernel_rfl
def aM(c:Int):ByteArray:=⟨#[UInt8.ofNat c.toNat]⟩
theorem df(a b:ByteArray):aU (a++b)=aU a++aU b:=by
 unfold aU
 rw[<-List.map_append]
 congr 1
theorem aW(c:Int):(aM c).size=1:=rfl
theorem bM{c:Int}(h0:0<=c)(h1:c<256):aU (aM c)=[[.v (.int .u8 c)]]:=by
 unfold aU aM
 simp only[List.map_cons,List.map_nil]
 have e:(((UInt8.ofNat c.toNat).toNat:Nat):Int)=c:=by
  rw[UInt8.toNat_ofNat',Nat.mod_eq_of_lt (by omega)];omega
 rw[e]
theorem aY(a b:ByteArray):(a++b).size=a.size+b.size:=by simp
def sV(p r:Nat)(a:AV)(s:ByteArray):List (Nat×Ob):=[(r,.row 5 1 (aU s)),(p,.box 79 [a,.own r 0 s.size 1])]
def Xd(p:Nat)(a:AV):Prop:=a=.v (.pointer none)\/a=.ptr p 0
def Qh(p:Nat)(s:ByteArray)(u v:AV)(news:List (Nat×Ob)):Prop:=v=u/\∃r,news=sV p r (.ptr p 0) s
theorem mH(p r:Nat)(a:AV)(ha:Xd p a)(s:ByteArray)(G:Hp)(hd:aK G (sV p r a s)):F Tryz.prog 69 [.ptr p 0] (aB G (sV p r a s)) (λu H'=>∃news,aK G news/\H'=aB G news/\(u=.dH []/\news=sV p r (.ptr p 0) s)):=by
 unfold sV at hd⊢
 have hd2:aK G [(r,.row 5 1 (aU s)),(p,.box 79 [.ptr p 0,.own r 0 s.size 1])]:=hd.kg (k:=1) _ U|>.2
 rcases ha with rfl|rfl
 ·refine aA (n:=20) (H0:=G) (M:=[(r,.row 5 1 (aU s)),(p,.box 79 [.v (.pointer none),.own r 0 s.size 1])]) Tryz.func69 (by kernel_rfl) U (by rw[Tryz.ntmps69];rfl) hd<|?_
  refine Q.rg<|Q.mv U<|S.qu (Z.iC U)<|Q.fa K5 U<|Q.lc 1 Qg U U U<|S.qu (Z.pnt Tryz.underlying77 U)<|Q.nt<|S.cT U U<|S.rg<|Q.mv U<|Q.mv U<|S.qu (Z.tou 1 Tryz.underlying77 Tryz.underlying120 U U (by simp))<|?_
  refine S.qu (Z.nox Tryz.func89 U U)<|S.qu (Z.fru 1 Tryz.underlying120 Tryz.underlying77 U U U)<|S.qu (Z.iC U)<|Q.fa K5 U<|S.s<|D.st 1 Qg U U U U U U U U λ_=>US.nil<|?_
  exact WR [_,_] (λ_=>zR U) (.refl _) λhd=>⟨_,hd,rfl,rfl,rfl⟩
 ·refine aA (n:=20) (H0:=G) (M:=[(r,.row 5 1 (aU s)),(p,.box 79 [.ptr p 0,.own r 0 s.size 1])]) Tryz.func69 (by kernel_rfl) U (by rw[Tryz.ntmps69];rfl) hd<|?_
  refine Q.rg<|Q.mv U<|S.qu (Z.iC U)<|Q.fa K5 U<|Q.lc 1 Qg U U U<|S.qu (Z.pnf Tryz.underlying77 U)<|Q.nt<|S.cF U U<|Q.rg<|Q.mv U<|S.qu (Z.iC U)<|Q.fa K5 U<|Q.lc 1 Qg U U U<|Q.mv U<|S.qu (Z.pne Tryz.underlying77 U U)<|Q.nt<|S.cF U U<|UW.skip<|?_
  exact WR [_,_] (λ_=>zR U) (.refl _) λhd=>⟨_,hd,rfl,rfl,rfl⟩
theorem mI(p r:Nat)(a:AV)(ha:Xd p a)(s:ByteArray)(hs:s.size<=100000000000000)(c:Int)(h0:0<=c)(h1:c<256)(G:Hp)(hd:aK G (sV p r a s)):F Tryz.prog 45 [.ptr p 0,.v (.int .u8 c)] (aB G (sV p r a s)) (λu H'=>∃news,aK G news/\H'=aB G news/\Qh p (s++aM c) (.v .nilIface) u news):=by
 have hcc:=λG hd=>mH p r a ha s G hd
 have hl:=eF s
 have hrw:(aU s).take s.size++[[.v (.int .u8 c)]]=aU (s++aM c):=by rw[df,bM h0 h1,List.take_of_length_le (by omega)]
 have hsz:s.size+1=(s++aM c).size:=by rw[aY,aW]
 unfold sV at hd hcc⊢
 refine aA (n:=17) (H0:=G) (M:=[(r,.row 5 1 (aU s)),(p,.box 79 [a,.own r 0 s.size 1])]) Tryz.func45 (by kernel_rfl) U (by rw[Tryz.ntmps45];rfl) hd<|?_
 refine Q.rg<|Q.as U<|Q.nt<|Q.rg<|Q.mv U<|S.dd<|D.co (.cons 0 U (.cons 0 U .nil)) U U (λG hD=>hcc G hD)<|?_
 rintro _ _ ⟨rfl,rfl⟩
 refine Q.nt<|Q.rg<|Q.mv U<|Q.mv U<|S.qu (Z.iC U)<|Q.fa qI U<|Q.lc 1 y9 U U U<|Q.mv U<|S.qu (Z.bl iT U U (dx U))<|S.dd<|D.ap 0 iT U U (by omega) U (.sl (pM U)) (by first|omega|(simp;omega)) hrw λp14=>?_
 refine S.qu (Z.iC U)<|Q.fa qI U<|S.s<|D.st 1 y9 U U U U U U U U λ_=>Q.nt<|Q.rg<|Q.as U<|Q.nt<|UW.ret<|?_
 exact bD [_,_] (λ_=>au U U) (.refl _) λhd=>⟨_,hd,rfl,rfl,_,by unfold sV;rw[<-hsz];rfl⟩
theorem xX(p r:Nat)(a:AV)(ha:Xd p a)(s:ByteArray)(hs:s.size<=100000000000000)(t:ByteArray)(ht:t.size<=10000000000000)(G:Hp)(hd:aK G (sV p r a s)):F Tryz.prog 47 [.ptr p 0,.v (.string t)] (aB G (sV p r a s)) (λu H'=>∃news,aK G news/\H'=aB G news/\Qh p (s++t) (.dH [.v (.int .i64 (t.size:Int)),.v .nilIface]) u news):=by
 have hcc:=λG hd=>mH p r a ha s G hd
 have hl:=eF s
 have hrw:(aU s).take s.size++aU t=aU (s++t):=by rw[df,List.take_of_length_le (by omega)]
 have hsz:s.size+t.size=(s++t).size:=by rw[aY]
 unfold sV at hd hcc⊢
 refine aA (n:=19) (H0:=G) (M:=[(r,.row 5 1 (aU s)),(p,.box 79 [a,.own r 0 s.size 1])]) Tryz.func47 (by kernel_rfl) U (by rw[Tryz.ntmps47];rfl) hd<|?_
 refine Q.rg<|Q.as U<|Q.as U<|Q.nt<|Q.rg<|Q.mv U<|S.dd<|D.co (.cons 0 U (.cons 0 U .nil)) U U (λG hD=>hcc G hD)<|?_
 rintro _ _ ⟨rfl,rfl⟩
 refine Q.nt<|Q.rg<|Q.mv U<|Q.mv U<|S.qu (Z.iC U)<|Q.fa qI U<|Q.lc 1 y9 U U U<|Q.mv U<|S.dd<|D.aps 0 iT z5 Tryz.underlying9 U U (by omega) U (by omega) hrw λp14=>S.qu (Z.iC U)<|Q.fa qI U<|S.s<|D.st 1 y9 U U U U U U U U λ_=>Q.nt<|Q.rg<|Q.mv U<|S.qu (Z.fC Tryz.underlying9 U)<|Q.as U<|Q.as U<|Q.nt<|UW.ret<|?_
 exact bD [_,_] (λhd=>ax U (Y U) (Y U)) (.refl _) λhd=>⟨_,hd,rfl,rfl,_,by unfold sV;rw[<-hsz]⟩
theorem rz(p r:Nat)(a:AV)(s:ByteArray)(hs:0<s.size)(hm:s.size<=100000000000000)(G:Hp)(hd:aK G (sV p r a s)):F Tryz.prog 48 [.ptr p 0] (aB G (sV p r a s)) (λu H'=>∃news,aK G news/\H'=aB G news/\(u=.v (.string s)/\news=[])):=by
 have hl:=eF s
 unfold sV at hd⊢
 refine aA (n:=14) (H0:=G) (M:=[(r,.row 5 1 (aU s)),(p,.box 79 [a,.own r 0 s.size 1])]) Tryz.func48 (by kernel_rfl) U (by rw[Tryz.ntmps48];rfl) hd<|?_
 refine Q.rg<|Q.as U<|Q.nt<|S.sq<|?_
 refine' UW.gF (by kernel_rfl) [1] [0,1,3,7,15,0,32,96,224,480,1023,2047] [some 3,some 4,some 5,some 6,none,some 8,some 9,some 10,some 11,some 12,none,none] [some (3,_),some (4,_),some (5,_),some (6,_),none,some (8,_),some (9,_),some (10,_),some (11,_),some (12,_),none,none] [4,10,11] [3] U (by decide) (by decide) (I.free (by decide) U U ?kE (I.free (by decide) U U ?kF (I.free (by decide) U U ?mJ (I.held (by decide) U U ?mK (I.skip (I.free (by decide) U U ?pQ (I.free (by decide) U U ?pU (I.free (by decide) U U ?pV (I.kept (by decide) U U ?ug (I.free (by decide) U U ?uh (I.skip (I.skip I.nil)))))))))))) ?xY
 case kE=>(intro _;exact Z.mv rfl)
 case kF=>(intro _;exact Z.iC rfl)
 case mJ=>(intro _;exact Z.fa qI rfl)
 case mK=>exact Z.dQ 1 y9 rfl rfl rfl
 case pQ=>(intro _;exact Z.mv rfl)
 case pU=>(intro _;exact Z.iC rfl)
 case pV=>(intro _;exact Z.fa qI rfl)
 case ug=>(intro _ hK;exact Z.kc 0 hK y9 rfl rfl rfl)
 case uh=>(intro _;exact Z.Co jf rfl)
 refine CH.cons U U (by decide) ?_ (.c 1 U .n)
 refine D.qu (Z.usd 0 U U (by omega))<|?_
 refine CH.cons U U (by decide) ?_ (.c 1 U .n)
 refine D.ust 0 Tryz.underlying99 (by kernel_rfl) U U U (by omega) (by omega)<|?_
 refine CH.cons U U (by decide) ?_ (.c 0 U .n)
 refine D.qu (Z.as U)<|?_
 refine CH.nil ?_ (.c 0 U .n)
 simp only[app,bV]
 refine UQ.then<|UW.ret<|?_
 exact bD [] (λ_=>au U U) (List.nil_sublist _) λhd=>⟨[],.nil,rfl,rfl,rfl⟩
def NR(H:Hp)(e sz:Nat)(rows:List (List AV))(u:AV)(H':Hp):Prop:=∃news,aK H news/\H'=aB H news/\∃i,u=.own i 0 rows.length sz/\news=[(i,.row e sz rows)]
theorem nO(l:List ByteArray):∀cs∈l.map encS,cs.length=1:=by
 intro cs h;obtain⟨s,_,rfl⟩:=List.mem_map.1 h;rfl
theorem aS(l:List V):(bE l).length=l.length:=by rw[dY,List.length_map]
theorem iV(l:List V):∀cs∈bE l,cs.length=5:=by
 intro cs h;rw[dY] at h;obtain⟨s,_,rfl⟩:=List.mem_map.1 h;exact ak s
theorem Je(l:List ByteArray)(hl:l.length*16<=140737488355328)(H:Hp):
 F Tryz.prog 140 [strs l] H (NR H 9 1 (l.map encS)):=by
 refine aA (n:=8) (H0:=H) (M:=[]) Tryz.func140 (by kernel_rfl) U (by rw[Tryz.ntmps140];rfl) .nil<|?_
 refine Q.rg<|Q.as U<|Q.nt<|UW.seq<|Q.rg<|Q.mv U<|US.DX U (by decide) U U Tryz.underlying24 U λc4 hc4=>Q.nt<|?_
 refine UW.cond U (λh=>?_) (λh=>?_)
 ·have hl0:=hc4 h
  refine Q.rg<|Q.as U<|US.DZ 2 9 1 (by decide) U λi=>US.nil<|UQ.then<|UW.ret<|UQ.aj<|bD [(i,.row 9 1 [])] (λ_=>au U U) (by simp) λhd=>?_
  exact⟨_,hd,rfl,i,by rw[hl0];rfl,by rw[hl0]⟩
 ·refine UW.skip<|UQ.then<|Q.rg<|US.lit U (by decide) U U iM (by decide) U U U (by simp) λp5=>?_
  refine Q.mv U<|US.jD U (by decide) U U iM U (k:=0) U (by simp) U (xR.sl (nO l)) (by simp;omega) U λp7=>?_
  refine Q.as U<|Q.nt<|UW.ret<|bD [(p7,_)] (λ_=>au U U) (.refl _) λhd=>?_
  exact⟨_,hd,rfl,p7,by simp,by simp⟩
inductive Fits:V->Prop
 |mk (k n:Int) (t:ByteArray) (ks:List ByteArray) (vs:List V) (h1:ks.length<=1000000) (h2:vs.length<=1000000) (h:∀x∈vs,Fits x):Fits (.mk k n t ks vs)
def NS(H:Hp)(x:V)(u:AV)(H':Hp):Prop:=∃news,aK H news/\H'=aB H news/\∃i j,u=.agg [.v (.int .i64 x.k),.v (.int .i64 x.n),.v (.string x.t),.own i 0 x.ks.length 1,.own j 0 x.vs.length 5]/\news=[(j,.row 27 5 (bE x.vs)),(i,.row 9 1 (x.ks.map encS))]
theorem jh(l:List V)(k:Nat)(h:k<l.length):(bE l)[k]? =some (aN l[k]):=by rw[dY,List.getElem?_map,List.getElem?_eq_getElem h];rfl
theorem Jf(l:List V)(k:Nat)(h:k<l.length):(bE l).take k++[aN l[k]]=(bE l).take (k+1):=by
 rw[List.take_add_one,jh l k h];rfl
theorem BO(l:List V)(hl:l.length<=1000000)(hc:∀x∈l,∀H,F Tryz.prog 119 [.agg (aN x)] H (bn H (.agg (aN x))))(H:Hp):
 F Tryz.prog 141 [.sl (bE l),.lW 119 []] H (NR H 27 5 (bE l)):=by
 refine aA (n:=22) (H0:=H) (M:=[]) Tryz.func141 (by kernel_rfl) U (by rw[Tryz.ntmps141];rfl) .nil<|?_
 refine Q.rg<|Q.as U<|Q.nt<|Q.rg<|Q.as U<|US.DZ 5 27 5 (by decide) U λi0=>US.nil<|UQ.then<|UW.seq<|Q.rg<|Q.mv U<|US.lC U (by decide) U U bR U<|Q.mv U<|Q.nt<|UW.block<|UW.loop (λp:Nat×Nat=>[(10,.v (.int .i64 (p.1:Int))),(5,.own p.2 0 p.1 5),(8,.sl (bE l)),(9,.v (.int .i64 ((bE l).length:Int))),(1,.lW 119 [])]) (λp=>[(p.2,.row 27 5 ((bE l).take p.1))]) (λp=>p.1<=l.length) (λp=>l.length-p.1) (0,i0) (Nat.zero_le _) ⟨rfl,rfl,rfl,rfl,rfl,trivial⟩ (.refl _)<|?_
 rintro⟨k,id⟩ hk
 simp only at hk
 have hll:=aS l
 refine Q.rg<|Q.bi U U U<|Q.nt<|UW.seq<|?_
 refine UW.cond U (λh=>?_) (λh=>?_)
 ·have h:=of_decide_eq_true h
  have hlt:k<l.length:=by omega
  refine UW.skip<|UQ.then<|UW.seq<|UW.block<|Q.rg<|US.dN U (by decide) U U bR U U (by omega) (jh l k hlt) (ak _)<|US.iR U (by decide) U U U ay (by exact ak _)<|?_
  refine US.zX U (by decide) U U z27 U U U U λp7=>US.kW U U U ay U (k:=0) U (by rfl) U U (by exact aH _) (by exact ak _) U<|?_
  refine Q.nt<|UW.region<|Q.mv U<|Q.mv U<|US.oQ U (by decide) U U ay U (k:=0) U (by exact ak _)<|?_
  refine US.gq U (by decide) U U U U (λ_=>hc _ (List.getElem_mem hlt) _)<|US.tX U (by decide) U U iw (by decide) U U U (by(intro cs h;cases List.mem_singleton.1 h;exact⟨by exact aH _,by exact ak _⟩))<|?_
  refine US.jD U (by decide) U U iw U (k:=1) U (by rw[List.length_take];omega) U (xR.sl (λcs h=>by cases List.mem_singleton.1 h;exact ak _)) (by(simp;omega)) (Eq.trans (by rw[List.take_take,Nat.min_self]) (Jf l k hlt)) λNp=>?_
  refine Q.as U<|US.nil<|UQ.aI<|UQ.then<|UW.region<|US.add U (by decide) U U U U (IntWalk.i64_in _ (by omega))<|Q.mv U<|?_
  exact US.round (a':=(k+1,Np)) (by simp only;omega) (by simp only;omega) ⟨rfl,rfl,rfl,rfl,rfl,trivial⟩ (by simp)
 ·have h:=of_decide_eq_false h
  have hkl:k=l.length:=by simp only at h;omega
  refine UW.exit<|UQ.pass<|UQ.pass<|UQ.here<|UQ.then<|Q.rg<|Q.mv U<|Q.as U<|Q.nt<|UW.ret<|bD [(id,_)] (λ_=>au U U) (.refl _) λhd=>?_
  exact⟨_,hd,rfl,id,by rw[hll,hkl],by rw[hkl,<-hll,List.take_length]⟩
theorem jU{H:Hp}{news:List (Nat×Ob)}(hd:aK H news):Sub H (aB H news):=gB (r':=[]) hd .nil (by simp)
theorem Gv{H:Hp}{news:List (Nat×Ob)}(hd:aK H news){k i:Nat}{rows:List (List AV)}{e sz:Nat}(h:news[k]? =some (i,.row e sz rows)):dw (aB H news) (.own i 0 rows.length sz) H (.sl rows):=by
 have h1:=dw.own (off:=0) (len:=rows.length) (rows':=rows) (jU hd) (hd.at_ h) (hd.base h) (by omega) U (λi cs cs' h1 h2=>by
  rw[h1] at h2;cases h2
  exact⟨rfl,λj u u' h3 h4=>by rw[h3] at h4;cases h4;exact dw.drop (jU hd) u⟩)
 simpa using h1
theorem Ab{H H':Hp}{a b c d e d' e':AV}(hs:Sub H' H)(h1:dw H d H' d')(h2:dw H e H' e'):dw H (.agg [a,b,c,d,e]) H' (.agg [a,b,c,d',e']):=by
 refine dw.agg U λj u u' h3 h4=>?_
 match j with
 |0=>simp at h3 h4;subst h3 h4;exact dw.drop hs _
 |1=>simp at h3 h4;subst h3 h4;exact dw.drop hs _
 |2=>simp at h3 h4;subst h3 h4;exact dw.drop hs _
 |3=>simp at h3 h4;subst h3 h4;exact h1
 |4=>simp at h3 h4;subst h3 h4;exact h2
 |j+5=>simp at h3
theorem kG{P:Program}{f:Nat}{us:List AV}{H:Hp}{x:V}(h:F P f us H (NS H x)):F P f us H (bn H (.agg (aN x))):=by
 refine h.post<|?_
 rintro u H1 ⟨news,hd,rfl,i,j,rfl,rfl⟩
 refine⟨.agg (aN x),H,jU hd,?_,rfl,rfl⟩
 obtain⟨k,n,t,ks,vs⟩:=x
 simp only[aN,V.k,V.n,V.t,V.ks,V.vs] at hd⊢
 refine Ab (jU hd) ?_ ?_
 ·have:=Gv hd (k:=1) U
  rwa [List.length_map] at this
 ·have:=Gv hd (k:=0) U
  rwa [aS] at this
theorem l9(x:V)(hx:Fits x):∀H,F Tryz.prog 119 [.agg (aN x)] H (NS H x):=by
 induction hx with
 |mk k n t ks vs h1 h2 h ih=>
 intro H
 refine aA (n:=12) (H0:=H) (M:=[]) Tryz.func119 (by kernel_rfl) U (by rw[Tryz.ntmps119];rfl) .nil<|?_
 refine Q.rg<|US.box U (by decide) U U U U (by rfl) λp1=>?_
 refine US.zX U (by decide) U U z27 U U U U λp2=>Q.nt<|Q.rg<|US.fieldAddr U (by decide) U U U dU<|Q.lc 1 iE U U U<|?_
 refine US.qW U (by decide) U U U U (λhd=>Je ks (by omega) _) ?_;rintro _ _ ⟨p5,rfl,rfl⟩;simp only[List.cons_append,List.nil_append]
 refine US.fieldAddr U (by decide) U U U dU<|US.xS U U U iE U (k:=2) U U U (by rfl) (by rfl) U U<|?_
 refine Q.nt<|Q.rg<|US.fieldAddr U (by decide) U U U bQ<|Q.lc 2 dm U U U<|?_
 refine US.qW U (by decide) U U U U (λhd=>BO vs h2 (λx hx H=>kG (ih x hx H)) _) ?_;rintro _ _ ⟨p9,rfl,rfl⟩;simp only[List.cons_append,List.nil_append]
 refine US.fieldAddr U (by decide) U U U bQ<|US.xS U U U dm U (k:=3) U U U (by rfl) (by rfl) U U<|?_
 refine Q.nt<|Q.rg<|US.oQ U (by decide) U U ay U (k:=3) U (by rfl)<|?_
 refine US.kW U U U ay U (k:=2) U (by rfl) U U (by rfl) (by rfl) U<|?_
 refine Q.nt<|UW.ret<|?_
 simp only[List.set_cons_succ,List.set_cons_zero]
 refine bD [(p9,_),(p5,_)] (λhd=>di (k:=2) hd U U U bH bI) (.cons_cons _ (.cons_cons _ (List.nil_sublist _))) λhd=>?_
 exact⟨_,hd,rfl,p5,p9,by simp only[V.k,V.n,V.t,V.ks,V.vs,List.length_map,aS],rfl⟩
def jE(l:List ByteArray)(s:ByteArray):Option Nat:=l.findIdx? (λx=>s.toList==x.toList)
def oi:Option Nat->Int
 |none=> -1
 |some i=>i
theorem Cs{l:List ByteArray}{s:ByteArray}{k:Nat}(hk:k<l.length)(h:(s.toList==l[k].toList)=true)(hj:∀j (h:j<l.length),j<k->(s.toList==l[j].toList)=false):jE l s=some k:=by
 unfold jE
 rw[List.findIdx?_eq_some_iff_getElem]
 exact⟨hk,h,λj hjk=>by rw[hj j (by omega) hjk];simp⟩
theorem yJ{l:List ByteArray}{s:ByteArray}(hj:∀j (h:j<l.length),(s.toList==l[j].toList)=false):jE l s=none:=by
 unfold jE
 rw[List.findIdx?_eq_none_iff]
 intro x hx
 obtain⟨j,hj2,rfl⟩:=List.getElem_of_mem hx
 exact hj j hj2
theorem Ct{l:List ByteArray}{s:ByteArray}{i:Nat}(h:jE l s=some i):i<l.length:=by
 unfold jE at h
 rw[List.findIdx?_eq_some_iff_getElem] at h
 exact h.1
theorem gT(l:List ByteArray)(k:Nat)(h:k<l.length):(l.map encS)[k]? =some (encS l[k]):=by rw[List.getElem?_map,List.getElem?_eq_getElem h];rfl
theorem index_spec(l:List ByteArray)(s:ByteArray)(hl:l.length<=1000000)(H:Hp):
 F Tryz.prog 139 [strs l,.v (.string s)] H (bn H (.v (.int .i64 (oi (jE l s))))):=by
 refine aA (n:=19) (H0:=H) (M:=[]) Tryz.func139 (by kernel_rfl) U (by rw[Tryz.ntmps139];rfl) .nil<|?_
 refine Q.rg<|Q.as U<|Q.nt<|UW.seq<|Q.rg<|Q.mv U<|US.lC U (by decide) U U bS U<|Q.mv U<|Q.nt<|UW.block<|UW.loop (λk:Nat=>[(8,.v (.int .i64 (k:Int))),(6,strs l),(7,.v (.int .i64 ((l.map encS).length:Int))),(0,strs l),(1,.v (.string s))]) (λ_=>[]) (λk=>k<=l.length/\∀j (h:j<l.length),j<k->(s.toList==l[j].toList)=false) (λk=>l.length-k) 0 ⟨Nat.zero_le _,λj _ h=>absurd h (by omega)⟩ ⟨rfl,rfl,rfl,rfl,rfl,trivial⟩ (.refl _)<|?_
 rintro k ⟨hk,hj⟩
 refine Q.rg<|Q.bi U U U<|Q.nt<|UW.seq<|?_
 refine UW.cond U (λh=>?_) (λh=>?_)
 ·have h:=of_decide_eq_true h
  rw[List.length_map] at h
  have hlt:k<l.length:=by omega
  refine UW.skip<|UQ.then<|UW.seq<|UW.block<|Q.rg<|Q.mv U<|Q.as U<|Q.nt<|Q.rg<|Q.mv U<|Q.mv U<|Q.mv U<|US.dN U (by decide) U U bS U U (by omega) (gT l k hlt) U<|US.eZ U (by decide) U U U fJ<|US.kQ U (by decide) U U U U U<|Q.nt<|?_
  refine UW.cond U (λh2=>?_) (λh2=>?_)
  ·refine Q.rg<|Q.mv U<|Q.as U<|Q.nt<|UW.ret<|UQ.az<|UQ.aj<|UQ.aj<|UQ.az<|UQ.aj<|?_
   refine bD [] (λ_=>au U U) (.refl _) λhd=>⟨?_,rfl⟩
   rw[Cs hlt h2 hj];rfl
  ·refine UW.skip<|UQ.aI<|UQ.then<|UW.region<|US.add U (by decide) U U U U (IntWalk.i64_in _ (by omega))<|Q.mv U<|?_
   exact US.round (a':=k+1) ⟨by omega,λj h3 h4=>by
    by_cases hjk:j=k
    ·subst hjk;exact h2
    ·exact hj j h3 (by omega)⟩ (by omega) ⟨rfl,rfl,rfl,rfl,rfl,trivial⟩ (.refl _)
 ·have h:=of_decide_eq_false h
  rw[List.length_map] at h
  refine UW.exit<|UQ.pass<|UQ.pass<|UQ.here<|UQ.then<|Q.rg<|Q.as U<|Q.nt<|UW.ret<|?_
  refine bD [] (λ_=>au U U) (.refl _) λhd=>⟨?_,rfl⟩
  rw[yJ (λj h3=>hj j h3 (by omega))];rfl
def pl(x:V)(key:ByteArray):Option Nat:=if x.k=5 then(match jE x.ks key with|some i=>if i<x.vs.length then some i else none|none=>none) else none
theorem ui(x:V)(key:ByteArray)(hx:Fits x)(H:Hp):
 F Tryz.prog 118 [.agg (aN x),.v (.string key)] H (bn H (.v (.int .i64 (oi (pl x key))))):=by
 cases hx with
 |mk k n t ks vs h1 h2 h=>
 refine aA (n:=19) (H0:=H) (M:=[]) Tryz.func118 (by kernel_rfl) U (by rw[Tryz.ntmps118];rfl) .nil<|?_
 refine Q.rg<|US.box U (by decide) U U U U (by rfl) λp2=>?_
 refine Q.as U<|Q.nt<|UW.seq<|Q.rg<|?_
 by_cases hk:k=5
 ·refine US.fieldAddr U (by decide) U U U eO<|Q.lc 0 bC U U U<|US.aG U (by decide) U U U U (r:=.bool false) (by(simp[fu,fB,hk];done))<|?_
  refine Q.nt<|UW.cond U (λh=>absurd h (by simp)) λ_=>?_
  refine UW.skip<|UQ.then<|UW.seq<|Q.rg<|US.fieldAddr U (by decide) U U U dU<|Q.lc 0 iE U U U<|Q.mv U<|US.gq U (by decide) U U U U (λ_=>index_spec ks key h1 _)<|Q.as U<|Q.nt<|Q.rg<|Q.mv U<|US.fieldAddr U (by decide) U U U bQ<|Q.lc 0 dm U U U<|US.lC U (by decide) U U bR U<|Q.bi U U U<|Q.nt<|?_
  refine UW.cond U (λh=>?_) (λh=>?_)
  ·refine Q.rg<|Q.mv U<|Q.as U<|Q.nt<|UW.ret<|UQ.aj<|?_
   refine bD [] (λ_=>au U U) (by simp) λhd=>⟨?_,rfl⟩
   have h:=of_decide_eq_true h
   rw[aS] at h
   simp only[pl,V.k,V.ks,V.vs,hk,if_true]
   cases hi:jE ks key with
   |none=>rfl
   |some i=>
    rw[hi] at h
    have hlt:i<vs.length:=by simp only[oi] at h;omega
    simp[oi,hlt]
  ·refine UW.skip<|UQ.then<|Q.rg<|Q.as U<|Q.nt<|UW.ret<|?_
   refine bD [] (λ_=>au U U) (by simp) λhd=>⟨?_,rfl⟩
   have h:=of_decide_eq_false h
   rw[aS] at h
   simp only[pl,V.k,V.ks,V.vs,hk,if_true]
   cases hi:jE ks key with
   |none=>rw[hi] at h;simp only[oi] at h;omega
   |some i=>
    rw[hi] at h
    have hlt:¬i<vs.length:=by simp only[oi] at h;omega
    simp[oi,hlt]
 ·refine US.fieldAddr U (by decide) U U U eO<|Q.lc 0 bC U U U<|US.aG U (by decide) U U U U (r:=.bool true) (by(simp[fu,fB,hk];done))<|?_
  refine Q.nt<|?_
  refine UW.cond U (λ_=>?_) (λh=>absurd h (by simp))
  refine Q.rg<|Q.as U<|Q.nt<|UW.ret<|UQ.aj<|?_
  refine bD [] (λ_=>au U U) (by simp) λhd=>⟨?_,rfl⟩
  simp only[pl,V.k,hk,if_false];rfl
theorem Gw{x:V}{key:ByteArray}{i:Nat}(h:pl x key=some i):i<x.vs.length/\i<x.ks.length/\x.k=5:=by
 unfold pl at h
 split at h
 ·rename_i hk
  cases hi:jE x.ks key with
  |none=>rw[hi] at h;simp at h
  |some j=>
   rw[hi] at h
   simp only at h
   split at h
   ·cases h;exact⟨by assumption,Ct hi,hk⟩
   ·cases h
 ·cases h
theorem Fits.vs{x:V}(h:Fits x):∀y∈x.vs,Fits y:=by cases h with|mk k n t ks vs h1 h2 h=>exact h
theorem Fits.Tm{x:V}(h:Fits x):x.ks.length<=1000000:=by cases h with|mk k n t ks vs h1 h2 h=>exact h1
theorem Fits.Uh{x:V}(h:Fits x):x.vs.length<=1000000:=by cases h with|mk k n t ks vs h1 h2 h=>exact h2
def cutV(x:V):V:=.mk x.k x.n x.t (x.ks.take (min x.ks.length x.vs.length)) (x.vs.take (min x.ks.length x.vs.length))
theorem Fits.cut{x:V}(h:Fits x):Fits (cutV x):=.mk _ _ _ _ _ (by rw[List.length_take];have:=h.Tm;omega) (by rw[List.length_take];have:=h.Uh;omega) (λy hy=>h.vs y (List.mem_of_mem_take hy))
theorem Jg(l:List V)(k:Nat):bE (l.take k)=(bE l).take k:=by rw[dY,dY,List.map_take]
theorem vP(x:V)(hx:Fits x)(H:Hp):
 F Tryz.prog 120 [.agg (aN x)] H (NS H (cutV x)):=by
 have hf:=hx
 cases hx with
 |mk k n t ks vs h1 h2 h=>
 have hkl:(ks.map encS).length=ks.length:=List.length_map ..
 have hvl:=aS vs
 refine aA (n:=23) (H0:=H) (M:=[]) Tryz.func120 (by kernel_rfl) U (by rw[Tryz.ntmps120];rfl) .nil<|?_
 refine Q.rg<|US.box U (by decide) U U U U (by rfl) λp1=>?_
 refine US.zX U (by decide) U U z27 U U U U λp2=>Q.nt<|Q.rg<|US.fieldAddr U (by decide) U U U dU<|Q.lc 1 iE U U U<|US.lC U (by decide) U U bS U<|US.fieldAddr U (by decide) U U U bQ<|Q.lc 1 dm U U U<|US.lC U (by decide) U U bR U<|?_
 refine US.WW U (by decide) U U U U (r:=((min ks.length vs.length:Nat):Int)) (by rw[hkl,hvl];split<;>omega) ?_
 refine Q.as U<|Q.nt<|UW.seq<|?_
 refine' UW.dC (by kernel_rfl) [0,1,0,7,0,16,0,112,63,319,1023,2047] [some 11,some 12,some 13,some 14,some 15,some 16,some 17,some 18,some 19,none,none,none] [some (11,_),some (12,_),some (13,_),some (14,_),some (15,_),some (16,_),some (17,_),some (18,_),some (19,_),none,none,none] [9,10,11] [1,5] U (by decide) (by decide) (I.free (by decide) U U ?q0 (I.held (by decide) U U ?q1 (I.free (by decide) U U ?q2 (I.free (by decide) U U ?q3 (I.free (by decide) U U ?q4 (I.held (by decide) U U ?q5 (I.free (by decide) U U ?q6 (I.free (by decide) U U ?q7 (I.free (by decide) U U ?q8 (I.skip (I.skip (I.skip I.nil)))))))))))) ?k
 case q0=>exact QF.fieldAddr rfl rfl rfl dU
 case q1=>exact QS.D6 rfl rfl iE rfl (k:=1) rfl rfl
 case q2=>exact QF.move rfl rfl rfl
 case q3=>exact QF.mo rfl rfl bS rfl (by exact nO _) (.hi rfl) (by omega) (by omega) rfl
 case q4=>exact QF.fieldAddr rfl rfl rfl bQ
 case q5=>exact QS.D6 rfl rfl dm rfl (k:=1) rfl rfl
 case q6=>exact QF.move rfl rfl rfl
 case q7=>exact QF.mo rfl rfl bR rfl (by exact iV _) (.hi rfl) (by omega) (by omega) rfl
 case q8=>exact QF.fieldAddr rfl rfl rfl dU
 refine CH.aV U U<|DS.xS U U iE U (k:=1) U U U (by rfl) (by rfl) U U λ_=>?_
 refine CH.cons U U (by decide)<|DS.qs (by exact QS.fieldAddr U U U bQ)<|?_
 refine CH.aV U U<|DS.xS U U dm U (k:=1) U U U (by rfl) (by rfl) U U λ_=>?_
 refine CH.nil<|?_
 simp only[app,bV]
 have e1:List.drop 0 (List.take (min ks.length vs.length) (bE vs))=bE (vs.take (min ks.length vs.length)):=by rw[List.drop_zero,Jg]
 have e2:List.drop 0 (List.take (min ks.length vs.length) (ks.map encS))=(ks.take (min ks.length vs.length)).map encS:=by rw[List.drop_zero,List.map_take]
 rw[e1,e2]
 refine UQ.then<|Q.rg<|US.oQ U (by decide) U U ay U (k:=1) U (by rfl)<|?_
 refine US.qW U (by decide) U U U U (λ_=>l9 (cutV (.mk k n t ks vs)) hf.cut _) ?_;rintro _ _ ⟨i,j,rfl,rfl⟩
 refine US.kW U U U ay U (k:=2) U (by rfl) U U (by rfl) (by rfl) U<|?_
 refine Q.nt<|UW.ret<|?_
 simp only[List.set_cons_succ,List.set_cons_zero,List.cons_append,List.nil_append]
 refine bD [_,_] (λhd=>di (k:=2) hd U U U bH bI) (.cons_cons _ (.cons_cons _ (List.nil_sublist _))) λhd=>?_
 exact⟨_,hd,rfl,i,j,rfl,rfl⟩
end Go.Proofs.YtbooeongacgnbaaGreatDoor
end
