/- A part of the proof. -/
import Derived.Test.YtbooeongacgnbaaGreatDoorMw02
import Derived.Maps.AppendAt
import Derived.Lib.SliceRun
set_option maxRecDepth 100000
set_option maxHeartbeats 4000000
set_option linter.unusedSectionVars false
set_option linter.unusedVariables false
set_option linter.unusedSimpArgs false
section
namespace Go.gW
open Go Go.RowKit
section
variable {P:Program} {n:Nat} {T:Sl} {H:Hp} {ops:Array Oper} {o:Oper} {K:AV->Hp->Prop}
theorem gP{ok:Nat->Prop}{ρ:fK}{w:World}{us lu:List AV}{xs xs':List Value}(h:aZ ok ρ w us xs)(h':aZ ok ρ w lu xs'):aZ ok ρ w (us++lu) (xs++xs'):=
 ⟨by simp[h.1,h'.1],λj u x h1 h2=>by
   by_cases hj:j<us.length
   ·rw[List.getElem?_append_left hj] at h1
    rw[List.getElem?_append_left (by rw[<-h.1];exact hj)] at h2
    exact h.2 j u x h1 h2
   ·rw[List.getElem?_append_right (by omega)] at h1
    rw[List.getElem?_append_right (by rw[<-h.1];omega),<-h.1] at h2
    exact h'.2 _ u x h1 h2⟩
theorem dW{ok:Nat->Prop}{ρ:fK}{w:World}:aZ ok ρ w [] []:=⟨rfl,λj u x h1=>by simp at h1⟩
theorem oM{ok:Nat->Prop}{ρ:fK}{w:World}:∀(rows:List (List AV)) (oN:List (List Value)),rows.length=oN.length->(∀(i:Nat) cs vs,rows[i]? =some cs->oN[i]? =some vs->aZ ok ρ w cs vs)->aZ ok ρ w rows.flatten oN.flatten
 |[],[],_,_=>dW
 |[],_::_,h,_=>by simp at h
 |_::_,[],h,_=>by simp at h
 |c::r,v::vr,hl,h=>by
  rw[List.flatten_cons,List.flatten_cons]
  exact gP (h 0 c v U U) (oM r vr (by simpa using hl) (λi cs vs h1 h2=>h (i+1) cs vs (by simpa using h1) (by simpa using h2)))
theorem jP{α:Type}(sz:Nat):∀(rows:List (List α)) (m:Nat),(∀cs∈rows,cs.length=sz)->(rows.drop m).flatten=rows.flatten.drop (m*sz)
 |[],m,_=>by simp
 |c::r,0,_=>by simp
 |c::r,m+1,h=>by
  rw[List.drop_succ_cons,jP sz r m (λcs hc=>h cs (by simp[hc])),List.flatten_cons,Nat.succ_mul,Nat.add_comm,<-List.drop_drop]
  congr 1
  rw[List.drop_left' (h c (by simp))]
theorem fU{α:Type}(sz:Nat):∀(rows:List (List α)) (m:Nat),(∀cs∈rows,cs.length=sz)->(rows.take m).flatten=rows.flatten.take (m*sz)
 |[],m,_=>by simp
 |c::r,0,_=>by simp
 |c::r,m+1,h=>by
  rw[List.take_succ_cons,List.flatten_cons,List.flatten_cons,fU sz r m (λcs hc=>h cs (by simp[hc])),Nat.succ_mul,Nat.add_comm,List.take_add,List.take_left' (h c (by simp)),List.drop_left' (h c (by simp))]
inductive Src (H:Hp) (sz:Nat):AV->List (List AV)->Prop
 |sl (rows:List (List AV)) (h:∀cs∈rows,cs.length=sz):Src H sz (.sl rows) rows
 |nil:Src H sz (.v (.slice none 0 0)) []
 |own (id off len e:Nat) (iB:List (List AV)) (h:H id=some (.row e sz iB)) (hle:off+len<=iB.length):Src H sz (.own id off len sz) ((iB.drop off).take len)
theorem zm{sz:Nat}{u:AV}{rows:List (List AV)}{ρ:fK}{w:World}(hr:dG ρ H w)(h:Src H sz u rows):∀cs∈rows,cs.length=sz:=by
 cases h with
 |sl _ h=>exact h
 |nil=>simp
 |own id off len e iB hh hle=>
  obtain⟨v,_,_,inner,_,hl,_⟩:=hr.ob _ _ hh
  exactλcs hcs=>hl cs (List.mem_of_mem_drop (List.mem_of_mem_take hcs))
theorem KW{sz:Nat}(hz:0<sz){u:AV}{rows:List (List AV)}{ρ:fK}{w:World}{x:Value}(hr:dG ρ H w)(h:Src H sz u rows)(hx:dL (bK ρ H) ρ w u x):
 ∃news,aZ (bK ρ H) ρ w rows.flatten news/\news.length=rows.length*sz/\((x=.slice none 0 0/\rows=[])\/∃ad c,x=.slice (some ad) rows.length c/\∀j y,news[j]? =some y->w.cell? (ad.add j)=some y):=by
 have hlen:=zm hr h
 cases h with
 |nil=>exact⟨[],dW,by simp,.inl ⟨aP hx,rfl⟩⟩
 |sl _ h=>
  cases hx with
  |nil=>exact⟨[],dW,by simp,.inl ⟨rfl,rfl⟩⟩
  |sl _ a cap Z4 vals hcap hmax hok hsz hc hr2=>
   let oN:=(List.range rows.length).map λi=>(List.range sz).map (vals i)
   have hv:∀vs∈oN,vs.length=sz:=by
    intro vs hvs
    obtain⟨i,_,rfl⟩:=List.mem_map.1 hvs
    simp
   have hvl:oN.length=rows.length:=by simp[oN]
   refine⟨oN.flatten,oM _ _ hvl.symm (λi cs vs h1 h2=>?_),by rw[dB sz _ hv,hvl],.inr ⟨a,cap,rfl,λj y hj=>?_⟩⟩
   ·have hi:=(List.getElem?_eq_some_iff.1 h1).1
    have hvs:vs=(List.range sz).map (vals i):=by
     have h3:oN[i]? =some ((List.range sz).map (vals i)):=by simp[oN,hi]
     rw[h3] at h2;exact(Option.some.inj h2).symm
    subst hvs
    have hcl:=hlen cs (List.mem_of_getElem? h1)
    refine⟨by simp[hcl],λk u y h4 h5=>?_⟩
    have hk:k<sz:=by rw[<-hcl];exact(List.getElem?_eq_some_iff.1 h4).1
    have:vals i k=y:=by simpa[hk] using h5
    subst this
    exact⟨hr2 i cs k u h1 h4,(hc i cs k h1 (by omega)).2⟩
   ·have hjl:=(List.getElem?_eq_some_iff.1 hj).1
    rw[dB sz _ hv,hvl] at hjl
    have hq:j/sz<rows.length:=(Nat.div_lt_iff_lt_mul hz).2 hjl
    have hrm:j % sz<sz:=Nat.mod_lt _ hz
    have hjj:j=j/sz*sz+j % sz:=by rw[Nat.mul_comm];exact(Nat.div_add_mod j sz).symm
    have h1:rows[j/sz]? =some rows[j/sz]:=List.getElem?_eq_getElem hq
    have h2:oN[j/sz]? =some ((List.range sz).map (vals (j/sz))):=by simp[oN,hq]
    have h3:=fw sz hz oN hv _ _ (j % sz) h2 hrm
    rw[<-hjj,hj] at h3
    have h4:vals (j/sz) (j % sz)=y:=by simpa[hrm] using h3.symm
    subst h4
    have hcl:=hlen _ (List.mem_of_getElem? h1)
    have e1:Z4=sz:=by rw[<-hcl];exact(hsz _ (List.mem_of_getElem? h1)).symm
    have h5:=(hc _ _ (j % sz) h1 (by omega)).1
    rw[e1,<-hjj] at h5
    exact h5
 |own id off len e iB hh hle=>
  obtain⟨v,hv,h0,inner,ho,hl,hc⟩:=hr.ob _ _ hh
  have e1:((iB.drop off).take len).flatten=(iB.flatten.drop (off*sz)).take (len*sz):=by
   rw[fU sz _ _ (λcs hcs=>hl cs (List.mem_of_mem_drop hcs)),jP sz _ _ hl]
  have hil:inner.length=iB.length*sz:=ho.1
  have hmul:off*sz+len*sz<=iB.length*sz:=by rw[<-Nat.add_mul];exact Nat.mul_le_mul_right _ hle
  have hrl:((iB.drop off).take len).length=len:=by simp;omega
  refine⟨(inner.drop (off*sz)).take (len*sz),by rw[e1];exact fT hc _ _,by rw[hrl];simp[hil];omega,?_⟩
  rw[hrl]
  cases hx with
  |lQ=>exact .inl ⟨rfl,by simp⟩
  |ny _ _ _ g m c o' c' hv' h0' _=>exact .inr ⟨_,_,rfl,λj y hj=>by simp at hj⟩
  |own _ _ _ _ g m cap hv' DU hmax=>
   rw[hv] at hv'
   cases hv'
   refine .inr ⟨_,_,rfl,λj y hj=>?_⟩
   rcases ho.2 with ⟨h4,_⟩|⟨g',cap',cur,h4,_,hg,h5,h6,h7,h8⟩
   ·cases h4
   ·cases h4
    rw[List.getElem?_take] at hj
    split at hj
    ·rw[List.getElem?_drop] at hj
     rw[add_plain]
     have hj2:cur[off*sz+j]? =some y:=by
      rw[<-h8,List.getElem?_take] at hj
      split at hj
      ·simpa using hj
      ·cases hj
     simp[World.cell?,hg,hj2]
    ·cases hj
theorem tC{a:Act}{w w':World}{t:TypeId}{s x:Operand}{v':Value}(ho:o.op=.call {callee:=.builtin .append,args:= #[s,x],argTypes:= #[t,t]})
 (h:(Builtin.append_ #[t,t] o.type #[a.eval s,a.eval x]).run P w=.ok v' w'):(execOp a.eval o).run P w=.ok (.value v') w':=by
 unfold execOp
 rw[ho]
 simp only[resolve,List.map_toArray,List.map_cons,List.map_nil,Sem.run_bind,Sem.run_pure,Result.andThen_ok,invoke,builtin,h]
structure kC(P:Program)(t e sz b:Nat):Prop where
 sl:lY P t=some (e,sz,b)
 zero:∃z,(P.info? e).map (·.zero)=some (some z)/\z.cells.size=sz/\z.cells.toList.all (·.oneCell')=true
 sz:0<sz
 b:0<b
theorem oO{ρ:fK}{w:World}{t e sz b:Nat}(ht:kC P t e sz b){v:Value}{m:Nat}{xs:List Value}(hown:w.ownsRow 0 e sz v m xs)(ty:TypeId){u:AV}{news:List (List AV)}{x:Value}(hr:dG ρ H w)(hs:Src H sz u news)(hx:dL (bK ρ H) ρ w u x)(hb:(m+news.length)*b<=140737488355328):
 ∃v' w' nv,(Builtin.append_ #[t,t] ty #[v,x]).run P w=.ok v' w'/\w'.ownsRow 0 e sz v' (m+news.length) (xs++nv)/\w.grownBy w' v.ownBlock/\(v'.ownBlock=v.ownBlock\/v'.ownBlock=some w.heap.size)/\aZ (bK ρ H) ρ w news.flatten nv:=by
 obtain⟨nv,hc,hnl,hh⟩:=KW ht.sz hr hs hx
 obtain⟨hu,he,i,hi,hsi,hbi⟩:=gy ht.sl
 obtain⟨z,hz,hzs,_⟩:=ht.zero
 obtain⟨i',hi',hz'⟩:=Option.map_eq_some_iff.1 hz
 rw[hi] at hi'
 cases hi'
 have h63:m+news.length<=maxLen:=by
  have:=Nat.le_mul_of_pos_right (m+news.length) ht.b
  simp only[maxLen];omega
 rcases hh with ⟨rfl,hn⟩|⟨ad,c,rfl,hcell⟩
 ·subst hn
  have Cj:nv=[]:=List.eq_nil_of_length_eq_zero (by simpa using hnl)
  subst Cj
  refine⟨v,w,[],run_append_owned_none (P:=P) (w:=w) 0 t ty e i sz hu hi v m xs (by exact hown),by simpa using hown,⟨rfl,rfl,rfl,Nat.le_refl _,λ_ _ _=>rfl⟩,.inl U,hc⟩
 ·obtain⟨v',w',h1,h2,h3,_,h5⟩:=run_append_own_at (P:=P) (w:=w) 0 t ty e i z sz b hu hi hz' hsi hbi hzs ht.sz v m xs hown ad news.length c nv hnl hcell (λy hy=>by
   obtain⟨j,hj⟩:=List.getElem?_of_mem hy
   have hlt:j<news.flatten.length:=by rw[hc.1];exact(List.getElem?_eq_some_iff.1 hj).1
   exact(hc.2 j _ y (List.getElem?_eq_getElem hlt) hj).2) h63 hb (Nat.zero_le _)
  exact⟨v',w',nv,h1,h2,h3,h5,hc⟩
theorem qV{ok:Nat->Prop}{ρ:fK}{w:World}{id e sz m:Nat}{v:Value}{xs:List Value}(ho:w.ownsRow 0 e sz v m xs)(h:ρ id=some v):dL ok ρ w (.own id 0 m sz) v:=by
 rcases ho.2 with ⟨rfl,rfl⟩|⟨g,cap,cur,rfl,_,hg,h5,h6,h7,h8⟩
 ·exact .lQ id sz h
 ·have:=dL.own (ok:=ok) (w:=w) id 0 m sz g m cap h (by omega) h6
  simpa using this
theorem pE{v:Value}{k:Nat}(ho:∃a b c,v=.slice a b c):blk v=some k↔v.ownBlock=some k:=by
 obtain⟨a,b,c,rfl⟩:=ho
 cases a<;>simp[blk,Value.ownBlock]
theorem l5{w:World}{e sz m:Nat}{v:Value}{xs:List Value}(ho:w.ownsRow 0 e sz v m xs):∃a b c,v=.slice a b c:=by
 rcases ho.2 with ⟨rfl,_⟩|⟨g,cap,cur,rfl,_⟩<;>exact⟨_,_,_,rfl⟩
theorem IZ{w:World}{e sz m:Nat}{v:Value}{xs:List Value}(ho:w.ownsRow 0 e sz v m xs){k:Nat}(h:blk v=some k):k<w.heap.size:=by
 rcases ho.2 with ⟨rfl,_⟩|⟨g,cap,cur,rfl,_,hg,_⟩
 ·cases h
 ·cases h;exact(Array.getElem?_eq_some_iff.1 hg).1
theorem Does.jD{t e sz b:Nat}{s x:Operand}{id len:Nat}{rows news:List (List AV)}(hg:o.guard=none)(ho:o.op=.call {callee:=.builtin .append,args:= #[s,x],argTypes:= #[t,t]})(ht:kC P t e sz b)
 (hs:ev T s=.own id 0 len sz) (h2:H id=some (.row e sz rows)) (hle:len<=rows.length) (hx:Src H sz (ev T x) news) (hb:(len+news.length)*b<=140737488355328)
 (hk:∀id',H id'=none->K (.own id' 0 (len+news.length) sz) (set (set H id none) id' (some (.row e sz (rows.take len++news))))):Does P n ops o T H K:=by
 intro a w ρ h1 hd h3 h4 N Q hN
 rw[if_pos (by simp[Region.wanted,hg])]
 have hr:=iA h4
 have h5:=hr s
 rw[hs] at h5
 obtain⟨v0,hv0,hz,inner,how,hl,hc⟩:=h3.ob _ _ h2
 -- the row, cut to its first elements
 have hcut:∃v,a.eval s=v/\w.ownsRow 0 e sz v len (inner.take (len*sz))/\blk v=blk v0/\v.ownBlock=v0.ownBlock:=by
  generalize a.eval s=xx at h5
  have hil:inner.length=rows.length*sz:=how.1
  have hmul:len*sz<=rows.length*sz:=Nat.mul_le_mul_right _ hle
  cases h5 with
  |lQ _ _ hv=>
   rw[hv0] at hv;cases hv
   exact⟨_,rfl,⟨by simp,.inl ⟨rfl,rfl⟩⟩,rfl,rfl⟩
  |ny _ _ _ g m c o' c' hv h0 _=>exact absurd U h0
  |own _ _ _ _ g m cap hv DU hmax=>
   rw[hv0] at hv;cases hv
   rcases how.2 with ⟨h6,_⟩|⟨g',cap',cur,h6,_,hg',h7,h8,h9,h10⟩
   ·cases h6
   ·cases h6
    refine⟨_,rfl,⟨by rw[List.length_take,hil,Nat.min_eq_left hmul],.inr ⟨g,cap,cur,by simp,Nat.zero_le _,hg',by omega,h8,h9,?_⟩⟩,by simp[blk],by simp[Value.ownBlock]⟩
    rw[<-h10,List.take_take,Nat.min_eq_left hmul]
 obtain⟨v,hv,hown,hbv,hov⟩:=hcut
 obtain⟨v',w',nv,hrun,hown',hgr,hat,Cj⟩:=oO ht hown o.type h3 hx (hr x) hb
 have hsl:=l5 hown
 have hsl0:=l5 how
 have Nw:=l5 hown'
 have htk:aZ (bK ρ H) ρ w (rows.take len++news).flatten (inner.take (len*sz)++nv):=by
  rw[List.flatten_append,fU sz _ _ hl]
  refine gP ?_ Cj
  have:=fT hc 0 (len*sz)
  simpa using this
 obtain⟨id',ρ',e1,e2,e3,e4,e5⟩:=h3.move (w':=w') (v:=v') (.row e sz (rows.take len++news)) h2 hv0 hgr.os hgr.tape hgr.output hgr.size
  (λk hk hn=>hgr.block k hk (λhe=>hn (by rw[<-hbv];exact(pE hsl).2 he.symm)))
  (λk hk=>⟨by
    have hk':=(pE Nw).1 hk
    rcases hat with hat|hat
    ·left;rw[<-hbv];exact(pE hsl).2 (by rw[<-hat];exact hk')
    ·right;rw[hat] at hk';cases hk';exact Nat.le_refl _,IZ hown' hk⟩)
  (λρ' H' e'=>⟨hz,inner.take (len*sz)++nv,by
    have:(rows.take len++news).length=len+news.length:=by simp;omega
    rw[this];exact hown',λcs hcs=>by
     rcases List.mem_append.1 hcs with h6|h6
     ·exact hl cs (List.mem_of_mem_take h6)
     ·exact zm h3 hx cs h6,e'.cells htk⟩)
 unfold Oper.wp
 rw[tC ho (by rw[hv];exact hrun)]
 exact hN v' w' ρ' _ _ e4 e5 (qV hown' e3) (hk id' e2)
theorem Does.append_nil{t e sz b:Nat}{s x:Operand}{news:List (List AV)}(hg:o.guard=none)(ho:o.op=.call {callee:=.builtin .append,args:= #[s,x],argTypes:= #[t,t]})(ht:kC P t e sz b)
 (hs:ev T s=.v (.slice none 0 0)) (hx:Src H sz (ev T x) news) (hb:news.length*b<=140737488355328)
 (hk:∀id',H id'=none->K (.own id' 0 news.length sz) (set H id' (some (.row e sz news)))):Does P n ops o T H K:=by
 intro a w ρ h1 hd h3 h4 N Q hN
 rw[if_pos (by simp[Region.wanted,hg])]
 have hr:=iA h4
 have h5:=hr s
 rw[hs] at h5
 have hv:=aP h5
 have hown:w.ownsRow 0 e sz (.slice none 0 0) 0 []:=⟨by simp,.inl ⟨rfl,rfl⟩⟩
 obtain⟨v',w',nv,hrun,hown',hgr,hat,Cj⟩:=oO ht hown o.type h3 hx (hr x) (by simpa using hb)
 have Nw:=l5 hown'
 rw[Nat.zero_add,List.nil_append] at hown'
 obtain⟨id',ρ',e1,e2,e3,e4,e5⟩:=h3.new (w':=w') v' (.row e sz news) ⟨hgr.os,hgr.tape,hgr.output,hgr.size,λk hk=>hgr.block k hk (by simp[Value.ownBlock])⟩
  (λk hk=>⟨by
    have hk':=(pE Nw).1 hk
    rcases hat with hat|hat
    ·rw[hat] at hk';simp[Value.ownBlock] at hk'
    ·rw[hat] at hk';cases hk';exact Nat.le_refl _,IZ hown' hk⟩)
  (λρ' H' e'=>⟨ht.sz,nv,hown',zm h3 hx,e'.cells Cj⟩)
 unfold Oper.wp
 rw[tC ho (by rw[hv];exact hrun)]
 exact hN v' w' ρ' _ _ e4 e5 (qV hown' e3) (hk id' e2)
theorem zO{a:Act}{w:World}{t:TypeId}{x:Operand}{r:Value}(ho:o.op=.call {callee:=.builtin .len,args:= #[x],argTypes:= #[t]})
 (h:(Builtin.len_ #[t] o.type #[a.eval x]).run P w=.ok r w):(execOp a.eval o).run P w=.ok (.value r) w:=by
 unfold execOp
 rw[ho]
 simp only[resolve,List.map_toArray,List.map_cons,List.map_nil,Sem.run_bind,Sem.run_pure,Result.andThen_ok,invoke,builtin,h]
theorem Does.xQ{t e s b:Nat}{x:Operand}{m:Nat}(ht:lY P t=some (e,s,b))(hg:o.guard=none)(ho:o.op=.call {callee:=.builtin .len,args:= #[x],argTypes:= #[t]})
 (hx:∀(ρ:fK) (w:World) y,dL (bK ρ H) ρ w (ev T x) y->∃A c,y=.slice A m c) (hk:K (.v (.int .i64 (m:Int))) H):Does P n ops o T H K:=by
 refine Does.val _ hg (λa w ρ hh hr=>?_) hk
 obtain⟨A,c,hy⟩:=hx ρ w _ (hr x)
 refine⟨_,zO ho (r:=.int .i64 (m:Int)) ?_,.v _⟩
 rw[hy]
 simp[Builtin.len_,run_underlying (gy ht).1,goInt]
theorem lC{ok:Nat->Prop}{ρ:fK}{w:World}{rows:List (List AV)}{y:Value}(h:dL ok ρ w (.sl rows) y):∃A c,y=.slice A rows.length c:=by
 cases h with
 |nil=>exact⟨none,0,rfl⟩
 |sl _ a cap sz vals h1 h2 h3 h4 h5 h6=>exact⟨_,_,rfl⟩
theorem vD{ok:Nat->Prop}{ρ:fK}{w:World}{id off len sz:Nat}{y:Value}(h:dL ok ρ w (.own id off len sz) y):∃A c,y=.slice A len c:=by
 cases h<;>exact⟨_,_,rfl⟩
theorem Does.lC{t e s b:Nat}{x:Operand}{rows:List (List AV)}(hg:o.guard=none)(ho:o.op=.call {callee:=.builtin .len,args:= #[x],argTypes:= #[t]})(ht:lY P t=some (e,s,b))(hx:ev T x=.sl rows)(hk:K (.v (.int .i64 (rows.length:Int))) H):Does P n ops o T H K:=
 Does.xQ ht hg ho (λρ w y h=>by rw[hx] at h;exact gW.lC h) hk
theorem Does.vD{t e s b:Nat}{x:Operand}{id off len sz:Nat}(hg:o.guard=none)(ho:o.op=.call {callee:=.builtin .len,args:= #[x],argTypes:= #[t]})(ht:lY P t=some (e,s,b))(hx:ev T x=.own id off len sz)(hk:K (.v (.int .i64 (len:Int))) H):Does P n ops o T H K:=
 Does.xQ ht hg ho (λρ w y h=>by rw[hx] at h;exact gW.vD h) hk
theorem Does.len_nil{t e s b:Nat}{x:Operand}(hg:o.guard=none)(ho:o.op=.call {callee:=.builtin .len,args:= #[x],argTypes:= #[t]})(ht:lY P t=some (e,s,b))(hx:ev T x=.v (.slice none 0 0))(hk:K (.v (.int .i64 0)) H):Does P n ops o T H K:=
 Does.xQ (m:=0) ht hg ho (λρ w y h=>by rw[hx] at h;exact⟨none,0,aP h⟩) hk
theorem Does.nG{t:TypeId}{x:Operand}{s:ByteArray}(hg:o.guard=none)(ho:o.op=.call {callee:=.builtin .len,args:= #[x],argTypes:= #[t]})(ht:P.underlying t=some .string)(hx:ev T x=.v (.string s))(hk:K (.v (.int .i64 (s.size:Int))) H):Does P n ops o T H K:=by
 refine Does.val _ hg (λa w ρ hh hr=>?_) hk
 have h3:=hr x
 rw[hx] at h3
 refine⟨_,zO ho (r:=.int .i64 (s.size:Int)) ?_,.v _⟩
 rw[aP h3]
 simp[Builtin.len_,run_underlying ht,goInt]
end
section
variable [Rd]
section
variable {P:Program} {n:Nat} {T:Sl} {H:Hp} {ops:Array Oper} {o:Oper} {K:AV->Hp->Prop}
def fu(op:BinOp)(k:IntKind)(a b:Int):Option Value:=
 match op with
 | .add=>some (.int k (k.wrap (a+b)))
 | .sub=>some (.int k (k.wrap (a-b)))
 | .mul=>some (.int k (k.wrap (a*b)))
 | .quo=>if b=0 then none else some (.int k (k.wrap (a.tdiv b)))
 | .rem=>if b=0 then none else some (.int k (a.tmod b))
 | .and=>some (.int k (k.wrap (BitVec.ofInt k.bits a&&&BitVec.ofInt k.bits b).toNat))
 | .or=>some (.int k (k.wrap (BitVec.ofInt k.bits a|||BitVec.ofInt k.bits b).toNat))
 | .xor=>some (.int k (k.wrap (BitVec.ofInt k.bits a^^^BitVec.ofInt k.bits b).toNat))
 | .eql=>some (.bool (a==b))
 | .neq=>some (.bool (a !=b))
 | .lss=>some (.bool (decide (a<b)))
 | .leq=>some (.bool (decide (a<=b)))
 | .gtr=>some (.bool (decide (a>b)))
 | .geq=>some (.bool (decide (a>=b)))
 |_=>none
theorem PZ{w:World}{op:BinOp}{t:TypeId}{k:IntKind}{a b:Int}{r:Value}(h:fu op k a b=some r):(binOp op t (.int k a) (.int k b)).run P w=.ok r w:=by
 cases op<;>simp[fu] at h<;>first
  |(subst h;simp[binOp,Op.intArith,Op.intBits,Op.intCmp];done)
  |(obtain⟨h1,h2⟩:=h;subst h2;simp[binOp,Op.intDiv,h1];done)
theorem dX{a:Act}{w:World}{op:BinOp}{t t2:TypeId}{x y:Operand}{r:Value}(ho:o.op=.binOp op t x y t2)(hgd:(eqGuard op t x y (a.eval x) (a.eval y)).run P w=.ok () w)(h:(binOp op t (a.eval x) (a.eval y)).run P w=.ok r w):(execOp a.eval o).run P w=.ok (.value r) w:=by
 unfold execOp
 rw[ho]
 simp only[Sem.run_bind,hgd,h,Result.andThen_ok,Sem.run_pure]
theorem Does.aG{op:BinOp}{t t2:TypeId}{x y:Operand}{k:IntKind}{a b:Int}{r:Value}(hg:o.guard=none)(ho:o.op=.binOp op t x y t2)(hx:ev T x=.v (.int k a))(hy:ev T y=.v (.int k b))(h:fu op k a b=some r)
 (hk:K (.v r) H):Does P n ops o T H K:=by
 refine Does.val _ hg (λac w ρ hh hr=>?_) hk
 have h3:=hr x
 have h4:=hr y
 rw[hx] at h3
 rw[hy] at h4
 refine⟨r,dX ho ?_ ?_,.v _⟩
 ·rw[aP h3,aP h4]
  cases op<;>simp[eqGuard]
 ·rw[aP h3,aP h4]
  exact PZ h
theorem Does.P5{t t2:TypeId}{x y:Operand}{k k':IntKind}{a b:Int}(hg:o.guard=none)(ho:o.op=.binOp .shl t x y t2)(hx:ev T x=.v (.int k a))(hy:ev T y=.v (.int k' b))(hb:0<=b)
 (hk:K (.v (.int k (k.wrap (a*2^min b.toNat k.bits)))) H):Does P n ops o T H K:=by
 refine Does.val _ hg (λac w ρ hh hr=>?_) hk
 have h3:=hr x
 have h4:=hr y
 rw[hx] at h3
 rw[hy] at h4
 refine⟨_,dX ho ?_ ?_,.v _⟩
 ·rw[aP h3,aP h4];simp[eqGuard]
 ·rw[aP h3,aP h4]
  have:¬b<0:=by omega
  simp[binOp,Op.shift,this]
theorem Does.rT{t t2:TypeId}{x y:Operand}{k k':IntKind}{a b:Int}(hg:o.guard=none)(ho:o.op=.binOp .shr t x y t2)(hx:ev T x=.v (.int k a))(hy:ev T y=.v (.int k' b))(hb:0<=b)
 (hk:K (.v (.int k (a.fdiv (2^min b.toNat k.bits)))) H):Does P n ops o T H K:=by
 refine Does.val _ hg (λac w ρ hh hr=>?_) hk
 have h3:=hr x
 have h4:=hr y
 rw[hx] at h3
 rw[hy] at h4
 refine⟨_,dX ho ?_ ?_,.v _⟩
 ·rw[aP h3,aP h4];simp[eqGuard]
 ·rw[aP h3,aP h4]
  have:¬b<0:=by omega
  simp[binOp,Op.shift,this]
def fB(op:BinOp)(a b:ByteArray):Option Bool:=
 match op with
 | .eql=>some (a.toList==b.toList)
 | .neq=>some (!(a.toList==b.toList))
 | .lss=>some (Op.bytesLess a.toList b.toList)
 | .leq=>some (Op.bytesLess a.toList b.toList||(a.toList==b.toList))
 | .gtr=>some (!(Op.bytesLess a.toList b.toList||(a.toList==b.toList)))
 | .geq=>some (!Op.bytesLess a.toList b.toList)
 |_=>none
theorem Does.kQ{op:BinOp}{t t2:TypeId}{x y:Operand}{a b:ByteArray}{r:Bool}(hg:o.guard=none)(ho:o.op=.binOp op t x y t2)(hx:ev T x=.v (.string a))(hy:ev T y=.v (.string b))(h:fB op a b=some r)
 (hk:K (.v (.bool r)) H):Does P n ops o T H K:=by
 refine Does.val _ hg (λac w ρ hh hr=>?_) hk
 have h3:=hr x
 have h4:=hr y
 rw[hx] at h3
 rw[hy] at h4
 refine⟨_,dX ho ?_ ?_,.v _⟩
 ·rw[aP h3,aP h4]
  cases op<;>simp[eqGuard]
 ·rw[aP h3,aP h4]
  cases op<;>first
   |(simp[fB] at h;done)
   |(have h':=Option.some.inj h;subst h';simp[binOp,Op.stringOp];done)
theorem Does.DV{t t2:TypeId}{x y:Operand}{a b:ByteArray}(hg:o.guard=none)(ho:o.op=.binOp .add t x y t2)(hx:ev T x=.v (.string a))(hy:ev T y=.v (.string b))(h:a.size+b.size<=9223372036854775807)
 (hk:K (.v (.string (a++b))) H):Does P n ops o T H K:=by
 refine Does.val _ hg (λac w ρ hh hr=>?_) hk
 have h3:=hr x
 have h4:=hr y
 rw[hx] at h3
 rw[hy] at h4
 refine⟨_,dX ho ?_ ?_,.v _⟩
 ·rw[aP h3,aP h4];simp[eqGuard]
 ·rw[aP h3,aP h4]
  have:¬(((a.size+b.size:Nat):Int)>IntKind.i64.max):=by
   have:IntKind.i64.max=9223372036854775807:=by decide
   rw[this];omega
  simp only[binOp,Op.stringOp]
  rw[if_neg this]
  rfl
theorem Does.DW{t t2:TypeId}{x y:Operand}{a b:Bool}(hg:o.guard=none)(ho:o.op=.binOp .eql t x y t2)(ht:P.underlying t=some .bool)(hx:ev T x=.v (.bool a))(hy:ev T y=.v (.bool b))
 (hk:K (.v (.bool (a==b))) H):Does P n ops o T H K:=by
 refine Does.val _ hg (λac w ρ hh hr=>?_) hk
 have h3:=hr x
 have h4:=hr y
 rw[hx] at h3
 rw[hy] at h4
 refine⟨_,dX ho ?_ ?_,.v _⟩
 ·rw[aP h3,aP h4];simp[eqGuard]
 ·rw[aP h3,aP h4];exact run_eql_bool w t a b ht
theorem Gf{w:World}{t e:TypeId}(h:P.underlying t=some (.slice e))(A:Option Addr)(m c:Nat):(binOp .eql t (.slice A m c) (.slice none 0 0)).run P w=.ok (.bool A.isNone) w:=
 Lib.run_eql_slice_nil w t e A m c 0 0 h
theorem Does.DX{t t2 e:TypeId}{x y:Operand}(hg:o.guard=none)(ho:o.op=.binOp .eql t x y t2)(ht:P.underlying t=some (.slice e))(hy:y=.const (.slice none 0 0)){m:Nat}
 (hx:∀(ρ:fK) (w:World) y,dL (bK ρ H) ρ w (ev T x) y->∃A c,y=.slice A m c/\(A=none->m=0)) (hk:∀b:Bool,(b=true->m=0)->K (.v (.bool b)) H):Does P n ops o T H K:=by
 intro a w ρ h1 h2 h3 h4 N Q hN
 rw[if_pos (by simp[Region.wanted,hg])]
 have hr:=iA h4
 obtain⟨A,c,nD,hA⟩:=hx ρ w _ (hr x)
 have Zy:a.eval y=.slice none 0 0:=by rw[hy];rfl
 unfold Oper.wp
 rw[dX ho (by rw[nD,Zy];simp[eqGuard]) (by rw[nD,Zy];exact Gf ht A m c)]
 exact hN _ w ρ _ H h3 (Ext.refl _ _ _) (.v _) (hk _ (λh=>hA (by simpa using h)))
theorem Does.not{x:Operand}{t:TypeId}{b:Bool}(hg:o.guard=none)(ho:o.op=.unOp .not t x)(hx:ev T x=.v (.bool b))(hk:K (.v (.bool (!b))) H):Does P n ops o T H K:=by
 refine Does.val _ hg (λac w ρ hh hr=>?_) hk
 have h3:=hr x
 rw[hx] at h3
 refine⟨_,?_,.v _⟩
 unfold execOp
 rw[ho]
 simp only[aP h3,Op.unary,Sem.run_bind,Sem.run_pure,Result.andThen_ok]
theorem Does.neg{x:Operand}{t:TypeId}{k:IntKind}{a:Int}(hg:o.guard=none)(ho:o.op=.unOp .neg t x)(hx:ev T x=.v (.int k a))(hk:K (.v (.int k (k.wrap (0-a)))) H):Does P n ops o T H K:=by
 refine Does.val _ hg (λac w ρ hh hr=>?_) hk
 have h3:=hr x
 rw[hx] at h3
 refine⟨_,?_,.v _⟩
 unfold execOp
 rw[ho]
 simp only[aP h3,Op.unary,Op.intArith,Sem.run_bind,Sem.run_pure,Result.andThen_ok]
theorem Does.vF{x:Operand}{s d:TypeId}{k k':IntKind}{a:Int}(hg:o.guard=none)(ho:o.op=.convert s d x)(hs:(P.underlying s).isSome=true)(hd:P.underlying d=some (.int k'))(hx:ev T x=.v (.int k a))(hk:K (.v (.int k' (k'.wrap a))) H):Does P n ops o T H K:=by
 refine Does.val _ hg (λac w ρ hh hr=>?_) hk
 have h3:=hr x
 rw[hx] at h3
 refine⟨_,?_,.v _⟩
 obtain⟨ds,hds⟩:=Option.isSome_iff_exists.mp hs
 unfold execOp
 rw[ho]
 simp only[aP h3,convert,Sem.run_bind,run_underlying hds,run_underlying hd,Conv.intToInt,Sem.run_pure,Result.andThen_ok]
theorem Does.min2{x y:Operand}{at_:Array TypeId}{k k':IntKind}{a b:Int}(hg:o.guard=none)(ho:o.op=.call {callee:=.builtin .min,args:= #[x,y],argTypes:=at_})(hx:ev T x=.v (.int k a))(hy:ev T y=.v (.int k' b))
 (hk:K (.v (.int k (if b<a then b else a))) H):Does P n ops o T H K:=by
 refine Does.val _ hg (λac w ρ hh hr=>?_) hk
 have h3:=hr x
 have h4:=hr y
 rw[hx] at h3
 rw[hy] at h4
 refine⟨_,?_,.v _⟩
 unfold execOp
 rw[ho]
 simp only[resolve,List.map_toArray,List.map_cons,List.map_nil,Sem.run_bind,Sem.run_pure,Result.andThen_ok,invoke,builtin,aP h3,aP h4,run_min_int2]
theorem Does.pick{c x y:Operand}{b:Bool}(hg:o.guard=none)(ho:o.op=.pick c x y)(hc:ev T c=.v (.bool b))(hk:K (if b then ev T x else ev T y) H):Does P n ops o T H K:=by
 refine Does.val _ hg (λac w ρ hh hr=>?_) hk
 have h3:=hr c
 rw[hc] at h3
 refine⟨if b then ac.eval x else ac.eval y,?_,?_⟩
 ·unfold execOp
  rw[ho]
  simp only[aP h3,asBool,Sem.run_bind,Sem.run_pure,Result.andThen_ok]
 ·cases b
  ·exact hr y
  ·exact hr x
theorem Does.KX{g:Nat×Bool}(h:Does P n ops {o with guard:=none} T H K)(hg:o.guard=some g){d:Nat}(hd:(ops[g.1]?).bind (·.dst)=some d)(hdn:d<n)(hT:T d=.v (.bool g.2)):Does P n ops o T H K:=by
 intro a w ρ h1 h2 h3 h4 N Q hN
 have h5:=h4 d
 rw[hT] at h5
 have h6:=aP h5
 have hw:Region.wanted o (yielded ops a.tmps)=true:=by
  have:a.tmps[d]? =some (.bool g.2):=by
   rw[Array.getD_eq_getD_getElem?] at h6
   rw[Array.getElem?_eq_getElem (by omega)] at h6⊢
   simpa using h6
  simp[Region.wanted,hg,yielded,hd,this]
 rw[if_pos hw]
 have h7:=h a w ρ h1 h2 h3 h4 N Q hN
 rw[if_pos (by simp[Region.wanted])] at h7
 exact h7
def nI(l:List AV):List (Nat×List AV)->List AV
 |[]=>l
 |(off,us)::r=>nI (gQ l off us) r
theorem zP(off:Nat):∀(vs:List Value) (i:Nat) (cells:Array Value),(vs.zipIdx i).foldl (λcs (c,j)=>cs.setIfInBounds (off+j) c) cells=(gQ cells.toList (off+i) vs).toArray
 |[],i,cells=>by simp[gQ]
 |v::r,i,cells=>by
  rw[List.zipIdx_cons,List.foldl_cons,zP off r (i+1)]
  simp[gQ,Nat.add_assoc]
theorem vG{ok:Nat->Prop}{ρ:fK}{w:World}(place:Nat->Option (Nat×Nat)):∀(parts:List (Nat×Value)) (us:List AV) (gp:List Nat) (l:List AV) (cells:List Value),parts.length=us.length->gp.length=us.length->
 (∀(j:Nat) p u off,parts[j]? =some p->us[j]? =some u->gp[j]? =some off->dL ok ρ w u p.2/\(flat u).all cK=true/\place p.1=some (off,(flat u).length)/\off+(flat u).length<=l.length)->
 aZ ok ρ w l cells->∃cells',Instr.fill place cells.toArray parts=some (List.toArray cells')/\aZ ok ρ w (nI l (gp.zip (us.map flat))) cells'
 |[],us,gp,l,cells,h1,h2,_,hc=>by
  cases us with
  |nil=>cases gp with
   |nil=>exact⟨cells,rfl,hc⟩
   |cons _ _=>simp at h2
  |cons _ _=>simp at h1
 |p::ps,us,gp,l,cells,h1,h2,h,hc=>by
  cases us with
  |nil=>simp at h1
  |cons u us=>cases gp with
   |nil=>simp at h2
   |cons off gp=>
    obtain⟨a1,a2,a3,a4⟩:=h 0 p u off rfl rfl rfl
    have hf:=zL a1 a2
    have hs:p.2.cells.size=(flat u).length:=by rw[<-Array.length_toList,<-hf.1]
    have hn:=kP hc hf off
    obtain⟨cells',e1,e2⟩:=vG place ps us gp (gQ l off (flat u)) _ (by simpa using h1) (by simpa using h2) (λj p' u' off' b1 b2 b3=>by
     have:=h (j+1) p' u' off' (by simpa using b1) (by simpa using b2) (by simpa using b3)
     rw[fZ];exact this) hn
    refine⟨cells',?_,e2⟩
    unfold Instr.fill
    simp only[a3]
    rw[if_neg (by rw[hs];simp;rw[<-hc.1];exact a4)]
    rw[<-e1]
    congr 1
    have e3:=zP off p.2.cells.toList 0 cells.toArray
    simp only[Nat.add_zero] at e3
    rw[<-e3]
    rw[<-Array.foldl_toList,Array.toList_zipIdx]
def lD(P:Program)(t:TypeId):Option (List Value×List (Nat×Nat)):=
 match P.info? t,P.underlying t with
 |some it,some (.struct fields)=>
  match it.zero,fields.toList.mapM (λf=>(P.info? f.type).map λi=>(f.offset,i.size)) with
  |some z,some places=>some (z.cells.toList,places)
  |_,_=>none
 |_,_=>none
theorem DY{a:Act}{w:World}{t:TypeId}{parts:Array (Nat×Operand)}{zs:List Value}{places:List (Nat×Nat)}{cells:List Value}(ho:o.op=.build t parts)(ht:lD P t=some (zs,places))
 (h:Instr.fill (places.toArray[·]?) zs.toArray (parts.toList.map λp=>(p.1,a.eval p.2))=some cells.toArray):(execOp a.eval o).run P w=.ok (.value (.agg cells.toArray)) w:=by
 have hb:P.built t (parts.map λ(i,x)=>(i,a.eval x)).toList=some cells.toArray:=by
  unfold lD at ht
  unfold Program.built
  split at ht
  ·rename_i it fields hi hu
   simp only[hi,hu]
   split at ht
   ·rename_i z pl hz hp
    cases ht
    simp only[hz,hp]
    rw[<-h]
    congr 1
    simp
   ·cases ht
  ·cases ht
 unfold execOp
 rw[ho]
 simp only[run_build w t _ _ hb,Sem.run_bind,Sem.run_pure,Result.andThen_ok]
theorem Does.build{t:TypeId}{parts:Array (Nat×Operand)}{zs:List Value}{places:List (Nat×Nat)}(gp:List Nat)(hg:o.guard=none)(ho:o.op=.build t parts)(ht:lD P t=some (zs,places))
 (hz:zs.all (·.oneCell')=true) (hol:gp.length=parts.toList.length)
 (hp:∀(j:Nat) p off,parts.toList[j]? =some p->gp[j]? =some off->(flat (ev T p.2)).all cK=true/\places[p.1]? =some (off,(flat (ev T p.2)).length)/\off+(flat (ev T p.2)).length<=zs.length)
 (hk:K (.agg (nI (zs.map .v) (gp.zip ((parts.toList.map λp=>ev T p.2).map flat)))) H):Does P n ops o T H K:=by
 refine Does.val _ hg (λa w ρ hh hr=>?_) hk
 obtain⟨cells',e1,e2⟩:=vG (ok:=bK ρ H) (ρ:=ρ) (w:=w) (places.toArray[·]?) (parts.toList.map λp=>(p.1,a.eval p.2)) (parts.toList.map λp=>ev T p.2) gp (zs.map .v) zs (by simp) (by simpa using hol) (λj p u off h1 h2 h3=>by
  rw[List.getElem?_map] at h1 h2
  cases hj:parts.toList[j]? with
  |none=>rw[hj] at h1;cases h1
  |some q=>
   rw[hj] at h1 h2
   cases h1;cases h2
   obtain⟨b1,b2,b3⟩:=hp j q off hj h3
   exact⟨hr q.2,b1,by rw[List.getElem?_toArray];exact b2,by simpa using b3⟩) (kz zs hz)
 exact⟨_,DY ho ht e1,kN e2⟩
theorem pF(sz:Nat):∀(us:List (List AV)) (pre LQ:List AV) (k:Nat),pre.length=k*sz->(∀cs∈us,cs.length=sz)->LQ.length=us.length*sz->
 nI (pre++LQ) ((List.range' k us.length).map (·*sz)|>.zip us)=pre++us.flatten
 |[],pre,LQ,k,_,_,hs=>by
  have:LQ=[]:=List.eq_nil_of_length_eq_zero (by simpa using hs)
  subst this
  simp[nI]
 |u::us,pre,LQ,k,hp,hu,hs=>by
  have Yn:=hu u (by simp)
  have e1:gQ (pre++LQ) (k*sz) u=(pre++u)++LQ.drop sz:=by
   apply List.ext_getElem?
   intro j
   rw[mi]
   have hsl:LQ.length=us.length*sz+sz:=by rw[hs,List.length_cons,Nat.succ_mul]
   by_cases h1:k*sz<=j/\j<k*sz+u.length/\j<(pre++LQ).length
   ·rw[if_pos h1,List.append_assoc,List.getElem?_append_right (by omega),List.getElem?_append_left (by omega),hp]
   ·rw[if_neg h1]
    rw[List.length_append] at h1
    by_cases h2:j<k*sz
    ·rw[List.append_assoc,List.getElem?_append_left (by omega),List.getElem?_append_left (by omega)]
    ·rw[List.getElem?_append_right (by omega),List.getElem?_append_right (by rw[List.length_append];omega),List.getElem?_drop,List.length_append]
     congr 1
     omega
  rw[List.length_cons,List.range'_succ,List.map_cons,List.zip_cons_cons]
  show nI (gQ (pre++LQ) (k*sz) u) _=_
  rw[e1,pF sz us (pre++u) (LQ.drop sz) (k+1) (by rw[List.length_append,hp,Yn,Nat.succ_mul]) (λcs hc=>hu cs (by simp[hc])) (by rw[List.length_drop,hs,List.length_cons,Nat.succ_mul];omega)]
  simp
theorem nJ{a:Act}{w:World}{t e sz b:Nat}{len:Nat}{parts:Array (Nat×Operand)}{z:Value}{cells:List Value}(ho:o.op=.buildSlice t len parts)(ht:lY P t=some (e,sz,b))(hz:(P.info? e).map (·.zero)=some (some z))(hl:len*sz<=2^24)(hc:len*sz≠0)
 (h:Instr.fill (λi=>some (i*sz,sz)) ((Array.range (len*sz)).map (λi=>z.cells[i % z.cells.size]!)) (parts.toList.map λp=>(p.1,a.eval p.2))=some cells.toArray):
 (execOp a.eval o).run P w=.ok (.value (.slice (some ⟨w.heap.size,0,none⟩) len len)) (w.alloc (.cells cells.toArray e)):=by
 obtain⟨hu,_⟩:=gy ht
 obtain⟨i,hi,hz⟩:=Option.map_eq_some_iff.1 hz
 have h0:(zeroValue e).run P w=.ok z w:=by simp[zeroValue,typeInfo,hi,hz,go_sem]
 have h':Instr.fill (λi=>some (i*sz,sz)) ((Array.range (len*sz)).map (λi=>z.cells[i % z.cells.size]!)) (parts.map λ(i,x)=>(i,a.eval x)).toList=some cells.toArray:=by
  rw[<-h];congr 1;simp
 have hnl:¬len*sz>2^24:=by omega
 unfold execOp
 rw[ho]
 simp only[Instr.buildSlice,Sem.run_bind,run_underlying hu,Result.andThen_ok,oK ht,hnl,if_false,hc,h0,Sem.run_pure,h']
 simp[newRow,go_sem]
theorem mq{a:Act}{w:World}{t e sz b:Nat}(ho:o.op=.buildSlice t 0 #[])(ht:lY P t=some (e,sz,b)):
 (execOp a.eval o).run P w=.ok (.value (.slice (some ⟨w.heap.size,0,none⟩) 0 0)) (w.alloc (.cells #[] e)):=by
 obtain⟨hu,_⟩:=gy ht
 unfold execOp
 rw[ho]
 simp[Instr.buildSlice,run_underlying hu,oK ht,Instr.fill,newRow,go_sem]
theorem oP{a:Act}{w:World}{ρ:fK}{t e sz b:Nat}{len:Nat}{parts:Array (Nat×Operand)}(hr:∀x:Operand,dL (bK ρ H) ρ w (ev T x) (a.eval x))(ho:o.op=.buildSlice t len parts)(ht:kC P t e sz b)(hl:len*sz<=2^24)
 (hp:parts.toList.map (·.1)=List.range len) (hc:∀p∈parts.toList,(flat (ev T p.2)).all cK=true/\(flat (ev T p.2)).length=sz):
 ∃cells,(execOp a.eval o).run P w=.ok (.value (.slice (some ⟨w.heap.size,0,none⟩) len len)) (w.alloc (.cells (List.toArray cells) e))/\cells.length=len*sz/\aZ (bK ρ H) ρ w (parts.toList.map λp=>flat (ev T p.2)).flatten cells:=by
 obtain⟨z,hz,hzs,hz1⟩:=ht.zero
 have hpl:parts.toList.length=len:=by have:=congrArg List.length hp;simpa using this
 by_cases h0:len=0
 ·subst h0
  have hpe:parts= #[]:=Array.toList_eq_nil_iff.1 (List.eq_nil_of_length_eq_zero hpl)
  subst hpe
  exact⟨[],mq ho ht.sl,by simp,dW⟩
 have hne:len*sz≠0:=by
  have:=ht.sz
  exact Nat.mul_ne_zero h0 (by omega)
 obtain⟨zs,I1⟩:∃zs:List Value,((Array.range (len*sz)).map (λi=>z.cells[i % z.cells.size]!))=zs.toArray:=⟨_,(Array.toArray_toList).symm⟩
 have hzl:zs.length=len*sz:=by have:=congrArg Array.size I1;simpa using this.symm
 have hzc:zs.all (·.oneCell')=true:=by
  rw[List.all_eq_true]
  intro y hy
  have hy2:y∈zs.toArray:=by simpa using hy
  rw[<-I1] at hy2
  obtain⟨i,_,rfl⟩:=Array.mem_map.1 hy2
  have hlt:i % z.cells.size<z.cells.size:=Nat.mod_lt _ (by rw[hzs];exact ht.sz)
  rw[getElem!_pos z.cells _ hlt]
  exact List.all_eq_true.1 hz1 _ (by simp)
 obtain⟨cells',e1,e2⟩:=vG (ok:=bK ρ H) (ρ:=ρ) (w:=w) (λi=>some (i*sz,sz)) (parts.toList.map λp=>(p.1,a.eval p.2)) (parts.toList.map λp=>ev T p.2) ((List.range len).map (·*sz)) (zs.map .v) zs (by simp) (by simp[hpl]) (λj p u off h1 h2 h3=>by
  rw[List.getElem?_map] at h1 h2 h3
  cases hj:parts.toList[j]? with
  |none=>rw[hj] at h1;cases h1
  |some q=>
   rw[hj] at h1 h2
   cases h1;cases h2
   have hjl:j<len:=by rw[<-hpl];exact(List.getElem?_eq_some_iff.1 hj).1
   rw[List.getElem?_range hjl] at h3
   cases h3
   have hq:q.1=j:=by
    have:=congrArg (λl=>l[j]?) hp
    simp only[List.getElem?_map,hj,List.getElem?_range hjl,Option.map_some] at this
    exact Option.some.inj this
   obtain⟨b1,b2⟩:=hc q (List.mem_of_getElem? hj)
   refine⟨hr q.2,b1,by simp only[hq,b2],?_⟩
   rw[b2,List.length_map,hzl,<-Nat.succ_mul]
   exact Nat.mul_le_mul_right _ hjl) (kz zs hzc)
 have e3:=pF sz ((parts.toList.map λp=>ev T p.2).map flat) [] (zs.map .v) 0 (by simp) (λcs hcs=>by
  obtain⟨u,hu,rfl⟩:=List.mem_map.1 hcs
  obtain⟨p,hp',rfl⟩:=List.mem_map.1 hu
  exact(hc p hp').2) (by simp[hzl,hpl])
 have e4:((parts.toList.map λp=>ev T p.2).map flat).length=len:=by simp[hpl]
 rw[List.nil_append,List.nil_append,e4,<-List.range_eq_range'] at e3
 rw[e3,List.map_map] at e2
 refine⟨cells',nJ ho ht.sl hz hl hne (by rw[I1];exact e1),?_,e2⟩
 rw[<-e2.1,dB sz _ (λcs hcs=>by
  obtain⟨p,hp',rfl⟩:=List.mem_map.1 hcs
  exact(hc p hp').2),List.length_map,hpl]
theorem Gg{w:World}{e sz len:Nat}{cells:List Value}(hl:cells.length=len*sz)(hm:len<=maxLen):(w.alloc (.cells cells.toArray e)).ownsRow 0 e sz (.slice (some ⟨w.heap.size,0,none⟩) len len) len cells:=by
 have:=World.ownsRow_lit (base:=0) (e:=e) (size:=sz) w cells.toArray len (Nat.zero_le _) hm (by simpa using hl)
 simpa using this
theorem Does.buildSlice{t e sz b:Nat}{len:Nat}{parts:Array (Nat×Operand)}(hg:o.guard=none)(ho:o.op=.buildSlice t len parts)(ht:kC P t e sz b)(hl:len*sz<=2^24)
 (hp:parts.toList.map (·.1)=List.range len) (hc:∀p∈parts.toList,(flat (ev T p.2)).all cK=true/\(flat (ev T p.2)).length=sz)
 (hk:∀id,H id=none->K (.own id 0 len sz) (set H id (some (.row e sz (parts.toList.map λp=>flat (ev T p.2)))))):Does P n ops o T H K:=by
 refine Does.zJ hg λa w ρ h hr=>?_
 obtain⟨cells,hrun,hcl,hrep⟩:=oP hr ho ht hl hp hc
 have hpl:parts.toList.length=len:=by have:=congrArg List.length hp;simpa using this
 have hm:len<=maxLen:=by
  have:=Nat.le_mul_of_pos_right len ht.sz
  simp only[maxLen];omega
 refine⟨_,_,_,.row e sz (parts.toList.map λp=>flat (ev T p.2)),hrun,iF _ _,?_,λρ' H' e'=>⟨ht.sz,cells,by rw[List.length_map,hpl];exact Gg hcl hm,λcs hcs=>by
  obtain⟨p,hp',rfl⟩:=List.mem_map.1 hcs
  exact(hc p hp').2,e'.cells hrep⟩,λid hid=>⟨.own id 0 len sz,λok' ρ' h'=>?_,hk id hid⟩⟩
 ·intro k hk;cases hk;rw[size_alloc];simp
 ·have:=dL.own (ok:=ok') (w:=w.alloc (.cells cells.toArray e)) id 0 len sz w.heap.size len len h' (by omega) hm
  simpa using this
theorem Does.tH{t e sz b:Nat}{len:Nat}{parts:Array (Nat×Operand)}(hg:o.guard=none)(ho:o.op=.buildSlice t len parts)(ht:kC P t e sz b)(hl:len*sz<=2^24)
 (hp:parts.toList.map (·.1)=List.range len) (hc:∀p∈parts.toList,(flat (ev T p.2)).all cK=true/\(flat (ev T p.2)).length=sz)
 (hk:K (.sl (parts.toList.map λp=>flat (ev T p.2))) H):Does P n ops o T H K:=by
 intro a w ρ h1 h2 h3 h4 N Q hN
 rw[if_pos (by simp[Region.wanted,hg])]
 have hr:=iA h4
 obtain⟨cells,hrun,hcl,hrep⟩:=oP hr ho ht hl hp hc
 have hpl:parts.toList.length=len:=by have:=congrArg List.length hp;simpa using this
 have hm:len<=maxLen:=by
  have:=Nat.le_mul_of_pos_right len ht.sz
  simp only[maxLen];omega
 have hb:=iF w (.cells (List.toArray cells) e)
 have hE:Ext ρ H w ρ H (w.alloc (.cells (List.toArray cells) e)):=⟨hb.os,hb.tape,hb.output,hb.size,λk hk _=>hb.block k hk,λ_ h=> .inl h,λ_ _ h=>h⟩
 have hR:dG ρ H (w.alloc (.cells (List.toArray cells) e)):=by
  refine⟨λid ob hi=>?_,h3.apart,h3.room,λid v k a b=>Nat.lt_of_lt_of_le (h3.lt id v k a b) hb.size⟩
  obtain⟨v,e1,e2⟩:=h3.ob id ob hi
  exact⟨v,e1,e2.ext hE (λk hk=>hb.block k (h3.lt id v k e1 hk))⟩
 unfold Oper.wp
 rw[hrun]
 refine hN _ _ ρ _ H hR hE ?_ hk
 have Gh:=hE.cells hrep
 have hlen:∀cs∈(parts.toList.map λp=>flat (ev T p.2)),cs.length=sz:=λcs hcs=>by
  obtain⟨p,hp',rfl⟩:=List.mem_map.1 hcs
  exact(hc p hp').2
 have BM:(parts.toList.map λp=>flat (ev T p.2)).length=len:=by rw[List.length_map,hpl]
 have hnew:bK ρ H w.heap.size:=by
  rintro⟨id,ob,v,_,b,c⟩
  have:=h3.lt id v _ b c
  omega
 have hsl:=dL.sl (ok:=bK ρ H) (ρ:=ρ) (w:=w.alloc (.cells (List.toArray cells) e)) (parts.toList.map λp=>flat (ev T p.2)) ⟨w.heap.size,0,none⟩ len sz (λi j=>cells.getD (i*sz+j) default) (by omega) hm (λ_=>⟨hnew,by rw[size_alloc];simp⟩) hlen (λi cs j hi hj=>by
  have hj':j<sz:=by rw[<-hlen cs (List.mem_of_getElem? hi)];exact hj
  have hg:=fw sz ht.sz _ hlen i cs j hi hj'
  rw[List.getElem?_eq_getElem hj] at hg
  obtain⟨y,hy,hy2,hy3⟩:=iI Gh hg
  have e1:cells.getD (i*sz+j) default=y:=by rw[List.getD_eq_getElem?_getD,hy];rfl
  rw[add_plain,e1]
  refine⟨?_,hy3⟩
  simp only[World.cell?,heap_alloc_new]
  simpa using hy) (λi cs j u hi hj=>by
  have hj':j<sz:=by rw[<-hlen cs (List.mem_of_getElem? hi)];exact(List.getElem?_eq_some_iff.1 hj).1
  have hg:=fw sz ht.sz _ hlen i cs j hi hj'
  rw[hj] at hg
  obtain⟨y,hy,hy2,hy3⟩:=iI Gh hg
  have e1:cells.getD (i*sz+j) default=y:=by rw[List.getD_eq_getElem?_getD,hy];rfl
  rw[e1];exact hy2)
 rw[BM] at hsl
 exact hsl
def dw(H:Hp)(u:AV)(H':Hp)(u':AV):Prop:=∀ρ w x,dG ρ H w->dL (bK ρ H) ρ w u x->dL (bK ρ H') ρ w u' x
theorem dw.drop{H':Hp}(hs:Sub H' H)(u:AV):dw H u H' u:=λρ w _ _ hr=>(Ext.drop (ρ:=ρ) hs w).rep hr
theorem dw.any(u:AV)(H':Hp):dw H u H' .any:=λ_ _ _ _ _=> .any _
theorem dw.agg{H':Hp}{l l':List AV}(hl:l'.length=l.length)(h:∀(j:Nat) u u',l[j]? =some u->l'[j]? =some u'->dw H u H' u'):dw H (.agg l) H' (.agg l'):=by
 intro ρ w x hh hr
 cases hr with
 |agg _ vs hl2 hr2=>exact .agg l' vs (by omega) (λj u' y h1 h2=>by
   have hj:j<l.length:=by rw[<-hl];exact(List.getElem?_eq_some_iff.1 h1).1
   exact h j _ u' (List.getElem?_eq_getElem hj) h1 ρ w y hh (hr2 j _ y (List.getElem?_eq_getElem hj) h2))
theorem dw.own{H':Hp}{id off len e sz:Nat}{rows rows':List (List AV)}(hs:Sub H' H)(h:H id=some (.row e sz rows))(h':H' id=none)(hle:off+len<=rows.length)
 (hl:rows'.length=rows.length) (hr:∀(i:Nat) cs cs',rows[i]? =some cs->rows'[i]? =some cs'->cs'.length=cs.length/\∀(j:Nat) u u',cs[j]? =some u->cs'[j]? =some u'->dw H u H' u'):
 dw H (.own id off len sz) H' (.sl ((rows'.drop off).take len)):=by
 intro ρ w x hh hx
 obtain⟨v,hv,hz,inner,ho,hcl,hc⟩:=hh.ob _ _ h
 have hlen:((rows'.drop off).take len).length=len:=by simp;omega
 have empty:len=0->(rows'.drop off).take len=[]:=λh0=>by rw[h0];simp
 cases hx with
 |lQ=>rw[empty U];exact .nil
 |ny _ _ _ g m c o' c' hv' h0 hm=>
  rw[empty U]
  exact .sl [] _ c' 0 (λ_ _=>default) (Nat.zero_le _) hm (λhn=>absurd U hn) (by simp) (by simp) (by simp)
 |own _ _ _ _ g m cap hv' DU hmax=>
  rw[hv] at hv'
  cases hv'
  rcases ho.2 with ⟨h4,_⟩|⟨g',cap',cur,h4,_,hg,h5,h6,h7,h8⟩
  ·cases h4
  ·cases h4
   have hok:bK ρ H' g:=by
    rintro⟨iG,Zz,v2,a1,a2,a3⟩
    have:=hh.apart iG id Zz _ v2 _ g (hs _ _ a1) h a2 hv a3 U
    subst this
    rw[h'] at a1
    cases a1
   have hget:∀(i:Nat) cs' j u',((rows'.drop off).take len)[i]? =some cs'->cs'[j]? =some u'->∃y,cur[(off+i)*sz+j]? =some y/\y.oneCell'=true/\dL (bK ρ H') ρ w u' y:=by
    intro i cs' j u' h1 h2
    rw[List.getElem?_take] at h1
    split at h1
    ·rw[List.getElem?_drop] at h1
     have hi:off+i<rows.length:=by rw[<-hl];exact(List.getElem?_eq_some_iff.1 h1).1
     have e1:=List.getElem?_eq_getElem hi
     obtain⟨e2,e3⟩:=hr _ _ _ e1 h1
     have hj:j<rows[off+i].length:=by rw[<-e2];exact(List.getElem?_eq_some_iff.1 h2).1
     have hjs:j<sz:=by rw[<-hcl _ (List.mem_of_getElem? e1)];exact hj
     have e4:=fw sz hz rows hcl _ _ j e1 hjs
     rw[List.getElem?_eq_getElem hj] at e4
     obtain⟨y,f1,f2,f3⟩:=iI hc e4
     refine⟨y,?_,f3,e3 j _ u' (List.getElem?_eq_getElem hj) h2 ρ w y hh f2⟩
     rw[<-h8,List.getElem?_take] at f1
     split at f1
     ·simpa using f1
     ·cases f1
    ·cases h1
   have hsz':∀cs∈(rows'.drop off).take len,cs.length=sz:=by
    intro cs hcs
    obtain⟨i,hi⟩:=List.getElem?_of_mem (List.mem_of_mem_drop (List.mem_of_mem_take hcs))
    have hi2:i<rows.length:=by rw[<-hl];exact(List.getElem?_eq_some_iff.1 hi).1
    rw[(hr i _ _ (List.getElem?_eq_getElem hi2) hi).1]
    exact hcl _ (List.getElem_mem hi2)
   have hgl:g<w.heap.size:=(Array.getElem?_eq_some_iff.1 hg).1
   have:=dL.sl (ok:=bK ρ H') (ρ:=ρ) (w:=w) ((rows'.drop off).take len) ⟨g,off*sz,none⟩ (cap-off) sz (λi j=>cur.getD ((off+i)*sz+j) default) (by omega) (by omega) (λ_=>⟨hok,hgl⟩) hsz' (λi cs j hi hj=>by
    obtain⟨y,f1,f2,_⟩:=hget i cs j _ hi (List.getElem?_eq_getElem hj)
    have e1:cur.getD ((off+i)*sz+j) default=y:=by rw[Array.getD_eq_getD_getElem?,f1];rfl
    rw[add_plain,e1]
    refine⟨?_,f2⟩
    have e2:off*sz+(i*sz+j)=(off+i)*sz+j:=by rw[Nat.add_mul];omega
    rw[e2]
    simp[World.cell?,hg,f1]) (λi cs j u hi hj=>by
    obtain⟨y,f1,_,f3⟩:=hget i cs j u hi hj
    have e1:cur.getD ((off+i)*sz+j) default=y:=by rw[Array.getD_eq_getD_getElem?,f1];rfl
    rw[e1];exact f3)
   rw[hlen] at this
   exact this
theorem qR.turn{Q:oo->Sl->Hp->Prop}{rest:List Oper}{T':Sl}{H':Hp}(hs:Sub H' H)(hT:∀t,dw H (T t) H' (T' t))(h:qR P n ops Q rest T' H'):qR P n ops Q rest T H:=by
 intro E a w hi
 refine h E a w ⟨hi.size,hi.defers,?_⟩
 obtain⟨ρ,h1,h2,h3⟩:=hi.rel
 exact⟨ρ,h1.drop hs,h2.trans (Ext.drop hs w),λt=>hT t ρ w _ h1 (h3 t)⟩
theorem AW.turn{Q:oo->Sl->Hp->Prop}{c:Code}{T':Sl}{H':Hp}(hs:Sub H' H)(hT:∀t,dw H (T t) H' (T' t))(h:AW P n c Q T' H'):AW P n c Q T H:=by
 intro E a w hi
 refine h E a w ⟨hi.size,hi.defers,?_⟩
 obtain⟨ρ,h1,h2,h3⟩:=hi.rel
 exact⟨ρ,h1.drop hs,h2.trans (Ext.drop hs w),λt=>hT t ρ w _ h1 (h3 t)⟩
theorem F.turn{f:FuncId}{us:List AV}{K K':AV->Hp->Prop}(h:F P f us H K)(hk:∀u H1,K u H1->∃u' H2,Sub H2 H1/\dw H1 u H2 u'/\K' u' H2):F P f us H K':=
 ⟨h.1,λρ w vals h1 h2=>(h.2 ρ w vals h1 h2).mono λ_ _ ⟨x,ρ',u,H',a,b,c,d,e⟩=>by
   obtain⟨u',H2,e1,e2,e3⟩:=hk u H' e
   exact⟨x,ρ',u',H2,a,b.drop e1,c.trans (Ext.drop e1 _),e2 ρ' _ x b d,e3⟩⟩
end
end
end Go.gW
end
