/- A part of the proof. -/
import Derived.Test.YtonpfomjoiaacaaGreatDoorMz03
import Derived.Maps.AppendAt
set_option maxRecDepth 100000
set_option maxHeartbeats 4000000
set_option linter.unusedSectionVars false
set_option linter.unusedVariables false
set_option linter.unusedSimpArgs false
section
namespace Go.fT
open Go Go.RowKit
section
variable {P:Program} {n:Nat} {T:Sl} {H:Hp} {ops:Array Oper} {o:Oper} {K:AV->Hp->Prop}
theorem gZ{ok:Nat->Prop}{ρ:gz}{w:World}{us lT:List AV}{xs xs':List Value}(h:aX ok ρ w us xs)(h':aX ok ρ w lT xs'):aX ok ρ w (us++lT) (xs++xs'):=
 ⟨by simp[h.1,h'.1],λj u x h1 h2=>by
   by_cases hj:j<us.length
   ·rw[List.getElem?_append_left hj] at h1
    rw[List.getElem?_append_left (by rw[<-h.1];exact hj)] at h2
    exact h.2 j u x h1 h2
   ·rw[List.getElem?_append_right (by omega)] at h1
    rw[List.getElem?_append_right (by rw[<-h.1];omega),<-h.1] at h2
    exact h'.2 _ u x h1 h2⟩
theorem gD{ok:Nat->Prop}{ρ:gz}{w:World}:aX ok ρ w [] []:=⟨rfl,λj u x h1=>by simp at h1⟩
theorem qK{ok:Nat->Prop}{ρ:gz}{w:World}:∀(rows:List (List AV)) (qL:List (List Value)),rows.length=qL.length->(∀(i:Nat) cs vs,rows[i]? =some cs->qL[i]? =some vs->aX ok ρ w cs vs)->aX ok ρ w rows.flatten qL.flatten
 |[],[],_,_=>gD
 |[],_::_,h,_=>by simp at h
 |_::_,[],h,_=>by simp at h
 |c::r,v::vr,hl,h=>by
  rw[List.flatten_cons,List.flatten_cons]
  exact gZ (h 0 c v U U) (qK r vr (by simpa using hl) (λi cs vs h1 h2=>h (i+1) cs vs (by simpa using h1) (by simpa using h2)))
theorem lg{α:Type}(sz:Nat):∀(rows:List (List α)) (m:Nat),(∀cs∈rows,cs.length=sz)->(rows.drop m).flatten=rows.flatten.drop (m*sz)
 |[],m,_=>by simp
 |c::r,0,_=>by simp
 |c::r,m+1,h=>by
  rw[List.drop_succ_cons,lg sz r m (λcs hc=>h cs (by simp[hc])),List.flatten_cons,Nat.succ_mul,Nat.add_comm,<-List.drop_drop]
  congr 1
  rw[List.drop_left' (h c (by simp))]
theorem gF{α:Type}(sz:Nat):∀(rows:List (List α)) (m:Nat),(∀cs∈rows,cs.length=sz)->(rows.take m).flatten=rows.flatten.take (m*sz)
 |[],m,_=>by simp
 |c::r,0,_=>by simp
 |c::r,m+1,h=>by
  rw[List.take_succ_cons,List.flatten_cons,List.flatten_cons,gF sz r m (λcs hc=>h cs (by simp[hc])),Nat.succ_mul,Nat.add_comm,List.take_add,List.take_left' (h c (by simp)),List.drop_left' (h c (by simp))]
inductive Src (H:Hp) (sz:Nat):AV->List (List AV)->Prop
 |sl (rows:List (List AV)) (h:∀cs∈rows,cs.length=sz):Src H sz (.sl rows) rows
 |nil:Src H sz (.v (.slice none 0 0)) []
 |own (id off len e:Nat) (iJ:List (List AV)) (h:H id=some (.row e sz iJ)) (hle:off+len<=iJ.length):Src H sz (.own id off len sz) ((iJ.drop off).take len)
theorem yI{sz:Nat}{u:AV}{rows:List (List AV)}{ρ:gz}{w:World}(hr:dN ρ H w)(h:Src H sz u rows):∀cs∈rows,cs.length=sz:=by
 cases h with
 |sl _ h=>exact h
 |nil=>simp
 |own id off len e iJ hh hle=>
  obtain⟨v,_,_,inner,_,hl,_⟩:=hr.ob _ _ hh
  exactλcs hcs=>hl cs (List.mem_of_mem_drop (List.mem_of_mem_take hcs))
theorem HZ{sz:Nat}(hz:0<sz){u:AV}{rows:List (List AV)}{ρ:gz}{w:World}{x:Value}(hr:dN ρ H w)(h:Src H sz u rows)(hx:dU (bF ρ H) ρ w u x):
 ∃news,aX (bF ρ H) ρ w rows.flatten news/\news.length=rows.length*sz/\((x=.slice none 0 0/\rows=[])\/∃ad c,x=.slice (some ad) rows.length c/\∀j y,news[j]? =some y->w.cell? (ad.add j)=some y):=by
 have hlen:=yI hr h
 cases h with
 |nil=>exact⟨[],gD,by simp,.inl ⟨aS hx,rfl⟩⟩
 |sl _ h=>
  cases hx with
  |nil=>exact⟨[],gD,by simp,.inl ⟨rfl,rfl⟩⟩
  |sl _ a cap sz' vals hcap hmax hok hsz hc hr2=>
   let qL:=(List.range rows.length).map λi=>(List.range sz).map (vals i)
   have hv:∀vs∈qL,vs.length=sz:=by
    intro vs hvs
    obtain⟨i,_,rfl⟩:=List.mem_map.1 hvs
    simp
   have hvl:qL.length=rows.length:=by simp[qL]
   refine⟨qL.flatten,qK _ _ hvl.symm (λi cs vs h1 h2=>?_),by rw[dQ sz _ hv,hvl],.inr ⟨a,cap,rfl,λj y hj=>?_⟩⟩
   ·have hi:=(List.getElem?_eq_some_iff.1 h1).1
    have hvs:vs=(List.range sz).map (vals i):=by
     have h3:qL[i]? =some ((List.range sz).map (vals i)):=by simp[qL,hi]
     rw[h3] at h2;exact(Option.some.inj h2).symm
    subst hvs
    have hcl:=hlen cs (List.mem_of_getElem? h1)
    refine⟨by simp[hcl],λk u y h4 h5=>?_⟩
    have hk:k<sz:=by rw[<-hcl];exact(List.getElem?_eq_some_iff.1 h4).1
    have:vals i k=y:=by simpa[hk] using h5
    subst this
    exact⟨hr2 i cs k u h1 h4,(hc i cs k h1 (by omega)).2⟩
   ·have hjl:=(List.getElem?_eq_some_iff.1 hj).1
    rw[dQ sz _ hv,hvl] at hjl
    have hq:j/sz<rows.length:=(Nat.div_lt_iff_lt_mul hz).2 hjl
    have hrm:j % sz<sz:=Nat.mod_lt _ hz
    have hjj:j=j/sz*sz+j % sz:=by rw[Nat.mul_comm];exact(Nat.div_add_mod j sz).symm
    have h1:rows[j/sz]? =some rows[j/sz]:=List.getElem?_eq_getElem hq
    have h2:qL[j/sz]? =some ((List.range sz).map (vals (j/sz))):=by simp[qL,hq]
    have h3:=gJ sz hz qL hv _ _ (j % sz) h2 hrm
    rw[<-hjj,hj] at h3
    have h4:vals (j/sz) (j % sz)=y:=by simpa[hrm] using h3.symm
    subst h4
    have hcl:=hlen _ (List.mem_of_getElem? h1)
    have e1:sz'=sz:=by rw[<-hcl];exact(hsz _ (List.mem_of_getElem? h1)).symm
    have h5:=(hc _ _ (j % sz) h1 (by omega)).1
    rw[e1,<-hjj] at h5
    exact h5
 |own id off len e iJ hh hle=>
  obtain⟨v,hv,h0,inner,ho,hl,hc⟩:=hr.ob _ _ hh
  have e1:((iJ.drop off).take len).flatten=(iJ.flatten.drop (off*sz)).take (len*sz):=by
   rw[gF sz _ _ (λcs hcs=>hl cs (List.mem_of_mem_drop hcs)),lg sz _ _ hl]
  have hil:inner.length=iJ.length*sz:=ho.1
  have hmul:off*sz+len*sz<=iJ.length*sz:=by rw[<-Nat.add_mul];exact Nat.mul_le_mul_right _ hle
  have hrl:((iJ.drop off).take len).length=len:=by simp;omega
  refine⟨(inner.drop (off*sz)).take (len*sz),by rw[e1];exact fq hc _ _,by rw[hrl];simp[hil];omega,?_⟩
  rw[hrl]
  cases hx with
  |lW=>exact .inl ⟨rfl,by simp⟩
  |nP _ _ _ g m c o' c' hv' h0' _=>exact .inr ⟨_,_,rfl,λj y hj=>by simp at hj⟩
  |own _ _ _ _ g m cap hv' Ac hmax=>
   rw[hv] at hv'
   cases hv'
   refine .inr ⟨_,_,rfl,λj y hj=>?_⟩
   rcases ho.2 with ⟨h4,_⟩|⟨g',cap',cur,h4,_,hg,h5,h6,h7,h8⟩
   ·cases h4
   ·cases h4
    rw[List.getElem?_take] at hj
    split at hj
    ·rw[List.getElem?_drop] at hj
     rw[add_plain]
     have hj2:cur[off*sz+j]? =some y:=by
      rw[<-h8,List.getElem?_take] at hj
      split at hj
      ·simpa using hj
      ·cases hj
     simp[World.cell?,hg,hj2]
    ·cases hj
theorem mH{a:Act}{w w':World}{t:TypeId}{s x:Operand}{v':Value}(ho:o.op=.call {callee:=.builtin .append,args:= #[s,x],argTypes:= #[t,t]})
 (h:(Builtin.append_ #[t,t] o.type #[a.eval s,a.eval x]).run P w=.ok v' w'):(execOp a.eval o).run P w=.ok (.value v') w':=by
 unfold execOp
 rw[ho]
 simp only[resolve,List.map_toArray,List.map_cons,List.map_nil,Sem.run_bind,Sem.run_pure,Result.andThen_ok,invoke,builtin,h]
structure jE(P:Program)(t e sz b:Nat):Prop where
 sl:j6 P t=some (e,sz,b)
 zero:∃z,(P.info? e).map (·.zero)=some (some z)/\z.cells.size=sz/\z.cells.toList.all (·.oneCell')=true
 sz:0<sz
 b:0<b
theorem qM{ρ:gz}{w:World}{t e sz b:Nat}(ht:jE P t e sz b){v:Value}{m:Nat}{xs:List Value}(hown:w.ownsRow 0 e sz v m xs)(ty:TypeId){u:AV}{news:List (List AV)}{x:Value}(hr:dN ρ H w)(hs:Src H sz u news)(hx:dU (bF ρ H) ρ w u x)(hb:(m+news.length)*b<=140737488355328):
 ∃v' w' nv,(Builtin.append_ #[t,t] ty #[v,x]).run P w=.ok v' w'/\w'.ownsRow 0 e sz v' (m+news.length) (xs++nv)/\w.grownBy w' v.ownBlock/\(v'.ownBlock=v.ownBlock\/v'.ownBlock=some w.heap.size)/\aX (bF ρ H) ρ w news.flatten nv:=by
 obtain⟨nv,hc,hnl,hh⟩:=HZ ht.sz hr hs hx
 obtain⟨hu,he,i,hi,hsi,hbi⟩:=dR ht.sl
 obtain⟨z,hz,hzs,_⟩:=ht.zero
 obtain⟨i',hi',hz'⟩:=Option.map_eq_some_iff.1 hz
 rw[hi] at hi'
 cases hi'
 have h63:m+news.length<=maxLen:=by
  have:=Nat.le_mul_of_pos_right (m+news.length) ht.b
  simp only[maxLen];omega
 rcases hh with ⟨rfl,hn⟩|⟨ad,c,rfl,hcell⟩
 ·subst hn
  have Sw:nv=[]:=List.eq_nil_of_length_eq_zero (by simpa using hnl)
  subst Sw
  refine⟨v,w,[],run_append_owned_none (P:=P) (w:=w) 0 t ty e i sz hu hi v m xs (by exact hown),by simpa using hown,⟨rfl,rfl,rfl,Nat.le_refl _,λ_ _ _=>rfl⟩,.inl U,hc⟩
 ·obtain⟨v',w',h1,h2,h3,_,h5⟩:=run_append_own_at (P:=P) (w:=w) 0 t ty e i z sz b hu hi hz' hsi hbi hzs ht.sz v m xs hown ad news.length c nv hnl hcell (λy hy=>by
   obtain⟨j,hj⟩:=List.getElem?_of_mem hy
   have hlt:j<news.flatten.length:=by rw[hc.1];exact(List.getElem?_eq_some_iff.1 hj).1
   exact(hc.2 j _ y (List.getElem?_eq_getElem hlt) hj).2) h63 hb (Nat.zero_le _)
  exact⟨v',w',nv,h1,h2,h3,h5,hc⟩
theorem uA{ok:Nat->Prop}{ρ:gz}{w:World}{id e sz m:Nat}{v:Value}{xs:List Value}(ho:w.ownsRow 0 e sz v m xs)(h:ρ id=some v):dU ok ρ w (.own id 0 m sz) v:=by
 rcases ho.2 with ⟨rfl,rfl⟩|⟨g,cap,cur,rfl,_,hg,h5,h6,h7,h8⟩
 ·exact .lW id sz h
 ·have:=dU.own (ok:=ok) (w:=w) id 0 m sz g m cap h (by omega) h6
  simpa using this
theorem rJ{v:Value}{k:Nat}(ho:∃a b c,v=.slice a b c):blk v=some k↔v.ownBlock=some k:=by
 obtain⟨a,b,c,rfl⟩:=ho
 cases a<;>simp[blk,Value.ownBlock]
theorem og{w:World}{e sz m:Nat}{v:Value}{xs:List Value}(ho:w.ownsRow 0 e sz v m xs):∃a b c,v=.slice a b c:=by
 rcases ho.2 with ⟨rfl,_⟩|⟨g,cap,cur,rfl,_⟩<;>exact⟨_,_,_,rfl⟩
theorem Ni{w:World}{e sz m:Nat}{v:Value}{xs:List Value}(ho:w.ownsRow 0 e sz v m xs){k:Nat}(h:blk v=some k):k<w.heap.size:=by
 rcases ho.2 with ⟨rfl,_⟩|⟨g,cap,cur,rfl,_,hg,_⟩
 ·cases h
 ·cases h;exact(Array.getElem?_eq_some_iff.1 hg).1
theorem Does.gQ{t e sz b:Nat}{s x:Operand}{id len:Nat}{rows news:List (List AV)}(hg:o.guard=none)(ho:o.op=.call {callee:=.builtin .append,args:= #[s,x],argTypes:= #[t,t]})(ht:jE P t e sz b)
 (hs:ev T s=.own id 0 len sz) (h2:H id=some (.row e sz rows)) (hle:len<=rows.length) (hx:Src H sz (ev T x) news) (hb:(len+news.length)*b<=140737488355328)
 (hk:∀id',H id'=none->K (.own id' 0 (len+news.length) sz) (set (set H id none) id' (some (.row e sz (rows.take len++news))))):Does P n ops o T H K:=by
 intro a w ρ h1 hd h3 h4 N Q hN
 rw[if_pos (by simp[Region.wanted,hg])]
 have hr:=gP h4
 have h5:=hr s
 rw[hs] at h5
 obtain⟨v0,hv0,hz,inner,how,hl,hc⟩:=h3.ob _ _ h2
 -- the row, cut to its first elements
 have hcut:∃v,a.eval s=v/\w.ownsRow 0 e sz v len (inner.take (len*sz))/\blk v=blk v0/\v.ownBlock=v0.ownBlock:=by
  generalize a.eval s=xx at h5
  have hil:inner.length=rows.length*sz:=how.1
  have hmul:len*sz<=rows.length*sz:=Nat.mul_le_mul_right _ hle
  cases h5 with
  |lW _ _ hv=>
   rw[hv0] at hv;cases hv
   exact⟨_,rfl,⟨by simp,.inl ⟨rfl,rfl⟩⟩,rfl,rfl⟩
  |nP _ _ _ g m c o' c' hv h0 _=>exact absurd U h0
  |own _ _ _ _ g m cap hv Ac hmax=>
   rw[hv0] at hv;cases hv
   rcases how.2 with ⟨h6,_⟩|⟨g',cap',cur,h6,_,hg',h7,h8,h9,h10⟩
   ·cases h6
   ·cases h6
    refine⟨_,rfl,⟨by rw[List.length_take,hil,Nat.min_eq_left hmul],.inr ⟨g,cap,cur,by simp,Nat.zero_le _,hg',by omega,h8,h9,?_⟩⟩,by simp[blk],by simp[Value.ownBlock]⟩
    rw[<-h10,List.take_take,Nat.min_eq_left hmul]
 obtain⟨v,hv,hown,hbv,hov⟩:=hcut
 obtain⟨v',w',nv,hrun,hown',hgr,hat,Sw⟩:=qM ht hown o.type h3 hx (hr x) hb
 have hsl:=og hown
 have hsl0:=og how
 have SI:=og hown'
 have htk:aX (bF ρ H) ρ w (rows.take len++news).flatten (inner.take (len*sz)++nv):=by
  rw[List.flatten_append,gF sz _ _ hl]
  refine gZ ?_ Sw
  have:=fq hc 0 (len*sz)
  simpa using this
 obtain⟨id',ρ',e1,e2,e3,e4,e5⟩:=h3.move (w':=w') (v:=v') (.row e sz (rows.take len++news)) h2 hv0 hgr.os hgr.tape hgr.output hgr.size
  (λk hk hn=>hgr.block k hk (λhe=>hn (by rw[<-hbv];exact(rJ hsl).2 he.symm)))
  (λk hk=>⟨by
    have hk':=(rJ SI).1 hk
    rcases hat with hat|hat
    ·left;rw[<-hbv];exact(rJ hsl).2 (by rw[<-hat];exact hk')
    ·right;rw[hat] at hk';cases hk';exact Nat.le_refl _,Ni hown' hk⟩)
  (λρ' H' e'=>⟨hz,inner.take (len*sz)++nv,by
    have:(rows.take len++news).length=len+news.length:=by simp;omega
    rw[this];exact hown',λcs hcs=>by
     rcases List.mem_append.1 hcs with h6|h6
     ·exact hl cs (List.mem_of_mem_take h6)
     ·exact yI h3 hx cs h6,e'.cells htk⟩)
 unfold Oper.wp
 rw[mH ho (by rw[hv];exact hrun)]
 exact hN v' w' ρ' _ _ e4 e5 (uA hown' e3) (hk id' e2)
theorem Does.append_nil{t e sz b:Nat}{s x:Operand}{news:List (List AV)}(hg:o.guard=none)(ho:o.op=.call {callee:=.builtin .append,args:= #[s,x],argTypes:= #[t,t]})(ht:jE P t e sz b)
 (hs:ev T s=.v (.slice none 0 0)) (hx:Src H sz (ev T x) news) (hb:news.length*b<=140737488355328)
 (hk:∀id',H id'=none->K (.own id' 0 news.length sz) (set H id' (some (.row e sz news)))):Does P n ops o T H K:=by
 intro a w ρ h1 hd h3 h4 N Q hN
 rw[if_pos (by simp[Region.wanted,hg])]
 have hr:=gP h4
 have h5:=hr s
 rw[hs] at h5
 have hv:=aS h5
 have hown:w.ownsRow 0 e sz (.slice none 0 0) 0 []:=⟨by simp,.inl ⟨rfl,rfl⟩⟩
 obtain⟨v',w',nv,hrun,hown',hgr,hat,Sw⟩:=qM ht hown o.type h3 hx (hr x) (by simpa using hb)
 have SI:=og hown'
 rw[Nat.zero_add,List.nil_append] at hown'
 obtain⟨id',ρ',e1,e2,e3,e4,e5⟩:=h3.new (w':=w') v' (.row e sz news) ⟨hgr.os,hgr.tape,hgr.output,hgr.size,λk hk=>hgr.block k hk (by simp[Value.ownBlock])⟩
  (λk hk=>⟨by
    have hk':=(rJ SI).1 hk
    rcases hat with hat|hat
    ·rw[hat] at hk';simp[Value.ownBlock] at hk'
    ·rw[hat] at hk';cases hk';exact Nat.le_refl _,Ni hown' hk⟩)
  (λρ' H' e'=>⟨ht.sz,nv,hown',yI h3 hx,e'.cells Sw⟩)
 unfold Oper.wp
 rw[mH ho (by rw[hv];exact hrun)]
 exact hN v' w' ρ' _ _ e4 e5 (uA hown' e3) (hk id' e2)
theorem CV{a:Act}{w:World}{t:TypeId}{x:Operand}{r:Value}(ho:o.op=.call {callee:=.builtin .len,args:= #[x],argTypes:= #[t]})
 (h:(Builtin.len_ #[t] o.type #[a.eval x]).run P w=.ok r w):(execOp a.eval o).run P w=.ok (.value r) w:=by
 unfold execOp
 rw[ho]
 simp only[resolve,List.map_toArray,List.map_cons,List.map_nil,Sem.run_bind,Sem.run_pure,Result.andThen_ok,invoke,builtin,h]
theorem Does.Ad{t e s b:Nat}{x:Operand}{m:Nat}(ht:j6 P t=some (e,s,b))(hg:o.guard=none)(ho:o.op=.call {callee:=.builtin .len,args:= #[x],argTypes:= #[t]})
 (hx:∀(ρ:gz) (w:World) y,dU (bF ρ H) ρ w (ev T x) y->∃A c,y=.slice A m c) (hk:K (.v (.int .i64 (m:Int))) H):Does P n ops o T H K:=by
 refine Does.val _ hg (λa w ρ hh hr=>?_) hk
 obtain⟨A,c,hy⟩:=hx ρ w _ (hr x)
 refine⟨_,CV ho (r:=.int .i64 (m:Int)) ?_,.v _⟩
 rw[hy]
 simp[Builtin.len_,run_underlying (dR ht).1,goInt]
theorem fC{ok:Nat->Prop}{ρ:gz}{w:World}{rows:List (List AV)}{y:Value}(h:dU ok ρ w (.sl rows) y):∃A c,y=.slice A rows.length c:=by
 cases h with
 |nil=>exact⟨none,0,rfl⟩
 |sl _ a cap sz vals h1 h2 h3 h4 h5 h6=>exact⟨_,_,rfl⟩
theorem il{ok:Nat->Prop}{ρ:gz}{w:World}{id off len sz:Nat}{y:Value}(h:dU ok ρ w (.own id off len sz) y):∃A c,y=.slice A len c:=by
 cases h<;>exact⟨_,_,rfl⟩
theorem Does.fC{t e s b:Nat}{x:Operand}{rows:List (List AV)}(hg:o.guard=none)(ho:o.op=.call {callee:=.builtin .len,args:= #[x],argTypes:= #[t]})(ht:j6 P t=some (e,s,b))(hx:ev T x=.sl rows)(hk:K (.v (.int .i64 (rows.length:Int))) H):Does P n ops o T H K:=
 Does.Ad ht hg ho (λρ w y h=>by rw[hx] at h;exact fT.fC h) hk
theorem Does.il{t e s b:Nat}{x:Operand}{id off len sz:Nat}(hg:o.guard=none)(ho:o.op=.call {callee:=.builtin .len,args:= #[x],argTypes:= #[t]})(ht:j6 P t=some (e,s,b))(hx:ev T x=.own id off len sz)(hk:K (.v (.int .i64 (len:Int))) H):Does P n ops o T H K:=
 Does.Ad ht hg ho (λρ w y h=>by rw[hx] at h;exact fT.il h) hk
theorem Does.len_nil{t e s b:Nat}{x:Operand}(hg:o.guard=none)(ho:o.op=.call {callee:=.builtin .len,args:= #[x],argTypes:= #[t]})(ht:j6 P t=some (e,s,b))(hx:ev T x=.v (.slice none 0 0))(hk:K (.v (.int .i64 0)) H):Does P n ops o T H K:=
 Does.Ad (m:=0) ht hg ho (λρ w y h=>by rw[hx] at h;exact⟨none,0,aS h⟩) hk
theorem Does.qa{t:TypeId}{x:Operand}{s:ByteArray}(hg:o.guard=none)(ho:o.op=.call {callee:=.builtin .len,args:= #[x],argTypes:= #[t]})(ht:P.underlying t=some .string)(hx:ev T x=.v (.string s))(hk:K (.v (.int .i64 (s.size:Int))) H):Does P n ops o T H K:=by
 refine Does.val _ hg (λa w ρ hh hr=>?_) hk
 have h3:=hr x
 rw[hx] at h3
 refine⟨_,CV ho (r:=.int .i64 (s.size:Int)) ?_,.v _⟩
 rw[aS h3]
 simp[Builtin.len_,run_underlying ht,goInt]
end
end Go.fT
end
