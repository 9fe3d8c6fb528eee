/- A part of the proof. -/
import Derived.Test.YtonpfomjoiaacaaGreatDoorMz06
set_option maxRecDepth 100000
set_option maxHeartbeats 4000000
set_option linter.unusedSectionVars false
set_option linter.unusedVariables false
set_option linter.unusedSimpArgs false
section
namespace Go.fT
open Go Go.RowKit
section
variable [Rd]
def CZ:List AV->Nat->Nat->Option (List AV)
 |_,0,0=>some []
 |x::r,0,n+1=>match CZ r 0 n with
  |some r'=>some (x::r')
  |none=>none
 |[],0,_+1=>none
 |_::r,m+1,n=>CZ r m n
 |[],_+1,_=>none
theorem Cm:∀{ls:List AV} {off sz:Nat} {rs:List AV},CZ ls off sz=some rs->(ls.drop off).take sz=rs/\off+sz<=ls.length
 |ls,0,0,rs,h=>by unfold CZ at h;cases h;simp
 |x::r,0,n+1,rs,h=>by
  unfold CZ at h
  split at h
  ·rename_i r' h1
   cases h
   have:=Cm h1
   simp only[List.drop_zero] at this
   simp only[List.drop_zero,List.take_succ_cons,this.1,List.length_cons]
   exact⟨trivial,by omega⟩
  ·cases h
 |[],0,_+1,rs,h=>by unfold CZ at h;cases h
 |_::r,m+1,n,rs,h=>by
  unfold CZ at h
  have:=Cm h
  simp only[List.drop_succ_cons,this.1,List.length_cons]
  exact⟨trivial,by omega⟩
 |[],_+1,_,rs,h=>by unfold CZ at h;cases h
def uB:List AV->Nat->List AV->Option (List AV)
 |ls,0,[]=>some ls
 |_::r,0,u::us=>match uB r 0 us with
  |some r'=>some (u::r')
  |none=>none
 |[],0,_::_=>none
 |x::r,m+1,us=>match uB r m us with
  |some r'=>some (x::r')
  |none=>none
 |[],_+1,_=>none
theorem vN{α:Type}(x:α):∀(us r:List α) (m:Nat),fH (x::r) (m+1) us=x::fH r m us
 |[],r,m=>rfl
 |u::us,r,m=>by simp only[fH,List.set_cons_succ];exact vN x us _ _
theorem rP:∀{ls:List AV} {off:Nat} {us rs:List AV},uB ls off us=some rs->fH ls off us=rs/\off+us.length<=ls.length
 |ls,0,[],rs,h=>by unfold uB at h;cases h;simp[fH]
 |x::r,0,u::us,rs,h=>by
  unfold uB at h
  split at h
  ·rename_i r' h1
   cases h
   have:=rP h1
   simp only[fH,List.set_cons_zero,List.length_cons]
   rw[vN,this.1]
   exact⟨rfl,by omega⟩
  ·cases h
 |[],0,_::_,rs,h=>by unfold uB at h;cases h
 |x::r,m+1,us,rs,h=>by
  unfold uB at h
  split at h
  ·rename_i r' h1
   cases h
   have:=rP h1
   rw[vN,this.1,List.length_cons]
   exact⟨rfl,by omega⟩
  ·cases h
 |[],_+1,us,rs,h=>by unfold uB at h;cases h
def lu:List AV->Option (List (List AV))
 |[]=>some []
 |u::r=>match oI u,lu r with
  |some cs,some rs=>some (cs::rs)
  |_,_=>none
theorem lX:∀{us:List AV} {rs:List (List AV)},lu us=some rs->us.map flat=rs
 |[],rs,h=>by cases h;rfl
 |u::r,rs,h=>by
  unfold lu at h
  split at h
  ·rename_i cs rs' h1 h2
   cases h
   rw[List.map_cons,fu h1,lX h2]
  ·cases h
def yN:List AV->List Nat->List (List AV)->Option (List AV)
 |ls,[],[]=>some ls
 |ls,off::gL,us::r=>match uB ls off us with
  |some ls'=>yN ls' gL r
  |none=>none
 |_,_,_=>none
theorem C8:∀{ls:List AV} {gL:List Nat} {jH:List (List AV)} {rs:List AV},yN ls gL jH=some rs->qb ls (gL.zip jH)=rs/\gL.length=jH.length/\∀(j:Nat) off us,gL[j]? =some off->jH[j]? =some us->off+us.length<=ls.length
 |ls,[],[],rs,h=>by cases h;exact⟨rfl,rfl,λj off us h=>by simp at h⟩
 |ls,[],_::_,rs,h=>by cases h
 |ls,_::_,[],rs,h=>by cases h
 |ls,off::gL,us::r,rs,h=>by
  unfold yN at h
  split at h
  ·rename_i ls' h1
   have h2:=rP h1
   have h3:=C8 h
   refine⟨by rw[List.zip_cons_cons];show qb (fH ls off us) _=_;rw[h2.1];exact h3.1,by simp[h3.2.1],λj off' lT h4 h5=>?_⟩
   cases j with
   |zero=>simp at h4 h5;subst h4 h5;exact h2.2
   |succ j=>
    have:=h3.2.2 j off' lT (by simpa using h4) (by simpa using h5)
    rw[<-h2.1,gI] at this
    exact this
  ·cases h
def vals:List Value->Option (List AV)
 |[]=>some []
 |x::r=>match vals r with
  |some rs=>some (.v x::rs)
  |none=>none
theorem qc:∀{zs:List Value} {rs:List AV},vals zs=some rs->zs.map .v=rs
 |[],rs,h=>by cases h;rfl
 |x::r,rs,h=>by
  unfold vals at h
  split at h
  ·rename_i rs' h1;cases h;rw[List.map_cons,qc h1]
  ·cases h
def kg(places:List (Nat×Nat)):List Nat->List Nat->List Nat->Bool
 |[],[],[]=>true
 |i::is,off::gL,s::ss=>places[i]? ==some (off,s)&&kg places is gL ss
 |_,_,_=>false
theorem yO{places:List (Nat×Nat)}:∀{is gL ss:List Nat},kg places is gL ss=true->∀(j:Nat) i off s,is[j]? =some i->gL[j]? =some off->ss[j]? =some s->places[i]? =some (off,s)
 |[],_,_,_,j,i,off,s,h1,_,_=>by simp at h1
 |_::_,[],_,h,_,_,_,_,_,_,_=>by simp[kg] at h
 |_::_,_::_,[],h,_,_,_,_,_,_,_=>by simp[kg] at h
 |i0::is,o0::gL,s0::ss,h,j,i,off,s,h1,h2,h3=>by
  simp only[kg,Bool.and_eq_true,beq_iff_eq] at h
  cases j with
  |zero=>simp at h1 h2 h3;subst h1 h2 h3;exact h.1
  |succ j=>exact yO h.2 j i off s (by simpa using h1) (by simpa using h2) (by simpa using h3)
section
variable {P:Program} {n:Nat} {ops:Array Oper} {Q:qH->Sl->Hp->Prop} {H0:Hp} {l:List (Nat×AV)} {I:List (Nat×Ob)} {rest:List Oper} {o:Oper} {c:Code}
variable {d:Nat} {x y:Operand} {u:AV} {t e sz b:Nat} {id k:Nat} {ob:Ob} {cells:List AV} {rows:List (List AV)}
theorem US.aJ{off:Nat}{ls:List AV}(hd:o.dst=some d)(hn:d<n)(hg:o.guard=none)(ho:o.op=.load t x)(ht:dY P t=some (false,sz))(hx:aT l x=some (.ptr id off))(h2:I[k]? =some (id,.box e ls))(hr:ls[off]? =some u)
 (hk:US P n ops Q H0 rest ((d,u)::l) I):US P n ops Q H0 (o::rest) l I:=
 US.nX hd hn hg ho hx h2 ht U hr hk
theorem US.fD{off:Nat}{ls ls':List AV}{aL:List (Nat×Ob)}{bb:Bool}(hd:o.dst=none)(hg:o.guard=none)(ho:o.op=.store t x y)(ht:dY P t=some (bb,sz))(hx:aT l x=some (.ptr id off))(h2:I[k]? =some (id,.box e ls))(hy:aT l y=some u)(hf:oI u=some cells)(hc:cells.all aR=true)
 (hl:cells.length=sz) (hr:uB ls off cells=some ls') (iD:I.set k (id,.box e ls')=aL)
 (hk:US P n ops Q H0 rest l aL):US P n ops Q H0 (o::rest) l I:=
 US.nY hd hg ho hx h2 hy hf hc ht hl (by rw[<-hl];exact(rP hr).2) (rP hr).1 (by rw[iD];exact hk)
theorem US.alloc'{zs:List Value}{us:List AV}{z:Value}(hd:o.dst=some d)(hn:d<n)(hg:o.guard=none)(ho:o.op=.alloc e)(hz:(P.info? e).map (·.zero)=some (some z))(hzs:z.cells.toList=zs)(hc:zs.all (·.oneCell')=true)(hv:vals zs=some us)
 (hk:∀id,US P n ops Q H0 rest ((d,.ptr id 0)::l) ((id,.box e us)::I)):US P n ops Q H0 (o::rest) l I:=
 US.alloc hd hn hg ho hz (by rw[hzs];exact hc) (by rw[hzs];exact qc hv) hk
theorem US.lit{len:Nat}{parts:Array (Nat×Operand)}{us:List AV}{jH:List (List AV)}(hd:o.dst=some d)(hn:d<n)(hg:o.guard=none)(ho:o.op=.buildSlice t len parts)(ht:jE P t e sz b)(hl:len*sz<=2^24)
 (hp:parts.toList.map (·.1)=List.range len) (ha:gW l (parts.toList.map (·.2))=some us) (hf:lu us=some jH) (hc:∀cs∈jH,cs.all aR=true/\cs.length=sz)
 (hk:∀id,US P n ops Q H0 rest ((d,.own id 0 len sz)::l) ((id,.row e sz jH)::I)):US P n ops Q H0 (o::rest) l I:=
 US.step hd hn λay=>by
  have e1:=jC ha
  have e2:=lX hf
  have e4:(parts.toList.map λp=>flat (ev (fI l) p.2))=jH:=by rw[<-e2,<-e1,List.map_map,List.map_map];rfl
  refine Does.buildSlice hg ho ht hl hp (λp hp'=>hc _ (by rw[<-e4];exact List.mem_map_of_mem (f:=λp=>flat (ev (fI l) p.2)) hp')) λid hid=>⟨(id,.row e sz jH)::I,by rw[e4];rfl,.cons hid ay,hk id⟩
theorem US.oK{len:Nat}{parts:Array (Nat×Operand)}{us:List AV}{jH:List (List AV)}(hd:o.dst=some d)(hn:d<n)(hg:o.guard=none)(ho:o.op=.buildSlice t len parts)(ht:jE P t e sz b)(hl:len*sz<=2^24)
 (hp:parts.toList.map (·.1)=List.range len) (ha:gW l (parts.toList.map (·.2))=some us) (hf:lu us=some jH) (hc:∀cs∈jH,cs.all aR=true/\cs.length=sz)
 (hk:US P n ops Q H0 rest ((d,.sl jH)::l) I):US P n ops Q H0 (o::rest) l I:=
 US.step hd hn λay=>by
  have e1:=jC ha
  have e2:=lX hf
  have e4:(parts.toList.map λp=>flat (ev (fI l) p.2))=jH:=by rw[<-e2,<-e1,List.map_map,List.map_map];rfl
  refine Does.wN hg ho ht hl hp (λp hp'=>hc _ (by rw[<-e4];exact List.mem_map_of_mem (f:=λp=>flat (ev (fI l) p.2)) hp')) ⟨I,rfl,ay,by rw[e4];exact hk⟩
theorem US.add{t2:Nat}{ki:IntKind}{a c r:Int}(hd:o.dst=some d)(hn:d<n)(hg:o.guard=none)(ho:o.op=.binOp .add t x y t2)(hx:aT l x=some (.v (.int ki a)))(hy:aT l y=some (.v (.int ki c)))(hr:ki.wrap (a+c)=r)
 (hk:US P n ops Q H0 rest ((d,.v (.int ki r))::l) I):US P n ops Q H0 (o::rest) l I:=
 US.az hd hn hg ho hx hy U (by rw[hr];exact hk)
theorem US.mul{t2:Nat}{ki:IntKind}{a c r:Int}(hd:o.dst=some d)(hn:d<n)(hg:o.guard=none)(ho:o.op=.binOp .mul t x y t2)(hx:aT l x=some (.v (.int ki a)))(hy:aT l y=some (.v (.int ki c)))(hr:ki.wrap (a*c)=r)
 (hk:US P n ops Q H0 rest ((d,.v (.int ki r))::l) I):US P n ops Q H0 (o::rest) l I:=
 US.az hd hn hg ho hx hy U (by rw[hr];exact hk)
theorem US.conv{s2:Nat}{ki kj:IntKind}{a r:Int}(hd:o.dst=some d)(hn:d<n)(hg:o.guard=none)(ho:o.op=.convert t s2 x)(hs:(P.underlying t).isSome=true)(ht:P.underlying s2=some (.int kj))(hx:aT l x=some (.v (.int ki a)))(hr:kj.wrap a=r)
 (hk:US P n ops Q H0 rest ((d,.v (.int kj r))::l) I):US P n ops Q H0 (o::rest) l I:=
 US.yJ hd hn hg ho hs ht hx (by rw[hr];exact hk)
theorem Vt{E:SF}{a:Act}{w:World}(hz:0<sz)(e:Nat)(hl:look l d=some (.v (.slice none 0 0)))(hi:Inv E n (fI l) (aC H0 I) a w):
 ∃id,aC H0 I id=none/\Inv E n (fI ((d,.own id 0 0 sz)::l)) (aC H0 ((id,.row e sz [])::I)) a w:=by
 obtain⟨ρ,h1,h2,h3⟩:=hi.rel
 obtain⟨id,ρ',e1,e2,e3,e4,e5⟩:=h1.new (w':=w) (.slice none 0 0) (.row e sz []) (Below.refl _ _) (λk hk=>by cases hk) (λρ' H' e'=>⟨hz,[],⟨by simp,.inl ⟨rfl,rfl⟩⟩,by simp,gD⟩)
 refine⟨id,e2,hi.size,hi.defers,ρ',e4,h2.trans e5,λt=>?_⟩
 have h4:=e5.rep (h3 t)
 unfold fI at h4⊢
 simp only[look]
 by_cases ht:t=d
 ·subst ht
  rw[hl] at h4
  rw[if_pos U]
  rw[aS h4]
  exact .lW id sz e3
 ·rw[if_neg ht];exact h4
theorem US.kG(d e sz:Nat)(hz:0<sz)(hl:look l d=some (.v (.slice none 0 0)))(hk:∀id,US P n ops Q H0 rest ((d,.own id 0 0 sz)::l) ((id,.row e sz [])::I)):US P n ops Q H0 rest l I:=by
 intro hd E a w hi
 obtain⟨id,h1,h2⟩:=Vt hz e hl hi
 exact hk id (.cons h1 hd) E a w h2
theorem US.freeze(d:Nat){off len:Nat}(k:Nat)(hl:look l d=some (.own id off len sz))(h2:I[k]? =some (id,.row e sz rows))(hle:off+len<=rows.length)(hk:US P n ops Q H0 rest ((d,.sl ((rows.drop off).take len))::l) (I.eraseIdx k)):US P n ops Q H0 rest l I:=by
 intro hd
 obtain⟨e1,e2⟩:=hd.kill h2
 have hs:Sub (aC H0 (I.eraseIdx k)) (aC H0 I):=fU hd e2 (λp hp=>List.mem_of_mem_eraseIdx hp)
 refine uo.turn hs (λt=>?_) (hk e2)
 unfold fI
 simp only[look]
 by_cases ht:t=d
 ·subst ht
  rw[hl,if_pos U]
  exact bL.own hs (hd.at_ h2) (by rw[<-e1];simp) hle U (λi cs cs' h1 h2=>by
   rw[h1] at h2;cases h2
   exact⟨rfl,λj u u' h3 h4=>by rw[h3] at h4;cases h4;exact bL.drop hs u⟩)
 ·rw[if_neg ht];exact bL.drop hs _
theorem au.post{f:Nat}{us:List AV}{H:Hp}{K K':AV->Hp->Prop}(h:au P f us H K)(hk:∀u H1,K u H1->∃u' H2,Sub H2 H1/\bL H1 u H2 u'/\K' u' H2):au P f us H K':=au.turn h hk
theorem xh{α:Type}:∀(us ls:List α),us.length=ls.length->fH ls 0 us=us
 |[],[],_=>rfl
 |u::us,l::ls,h=>by
  show fH ((l::ls).set 0 u) 1 us=_
  rw[List.set_cons_zero,vN,xh us ls (by simpa using h)]
 |[],_::_,h=>by simp at h
 |_::_,[],h=>by simp at h
theorem US.dI{ls:List AV}(hd:o.dst=some d)(hn:d<n)(hg:o.guard=none)(ho:o.op=.load t x)(ht:dY P t=some (true,sz))(hx:aT l x=some (.ptr id 0))(h2:I[k]? =some (id,.box e ls))(hl:ls.length=sz)
 (hk:US P n ops Q H0 rest ((d,.agg ls)::l) I):US P n ops Q H0 (o::rest) l I:=
 US.uz hd hn hg ho hx h2 ht U (by rw[<-hl];simp[cellsOf]) (by simp[cellsOf,hl]) hk
theorem US.bU{ls:List AV}{aL:List (Nat×Ob)}{bb:Bool}(hd:o.dst=none)(hg:o.guard=none)(ho:o.op=.store t x y)(ht:dY P t=some (bb,sz))(hx:aT l x=some (.ptr id 0))(h2:I[k]? =some (id,.box e ls))(hls:ls.length=sz)(hy:aT l y=some u)(hf:oI u=some cells)(hc:cells.all aR=true)
 (hl:cells.length=sz) (iD:I.set k (id,.box e cells)=aL)
 (hk:US P n ops Q H0 rest l aL):US P n ops Q H0 (o::rest) l I:=
 US.nY hd hg ho hx h2 hy hf hc ht hl (by rw[hls];omega) (xh cells ls (by rw[hl,hls])) (by rw[iD];exact hk)
end
end
end Go.fT
end
