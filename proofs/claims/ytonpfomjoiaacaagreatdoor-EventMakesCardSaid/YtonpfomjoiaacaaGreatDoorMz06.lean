/- A part of the proof. -/
import Derived.Test.YtonpfomjoiaacaaGreatDoorMz05
set_option maxRecDepth 100000
set_option maxHeartbeats 4000000
set_option linter.unusedSectionVars false
set_option linter.unusedVariables false
set_option linter.unusedSimpArgs false
section
namespace Go.fT
open Go Go.RowKit
section
variable [Rd]
def look:List (Nat×AV)->Nat->Option AV
 |[],_=>none
 |(d,u)::l,t=>if t=d then some u else look l t
def fI(l:List (Nat×AV)):Sl:=λt=>(look l t).getD .any
def aT(l:List (Nat×AV)):Operand->Option AV
 | .tmp t=>look l t
 | .const x=>some (.v x)
 | .global g=>some (.v (.pointer (some ⟨g,0,none⟩)))
 | .func f=>some (.gN f [])
theorem Ck(l:List (Nat×AV))(d:Nat)(u:AV):upd (fI l) d u=fI ((d,u)::l):=by
 funext t
 unfold upd fI
 simp only[look]
 split<;>simp
def aC(H0:Hp):List (Nat×Ob)->Hp
 |[]=>H0
 |(i,ob)::r=>set (aC H0 r) i (some ob)
inductive aM (H0:Hp):List (Nat×Ob)->Prop
 |nil:aM H0 []
 |cons {i:Nat} {ob:Ob} {r:List (Nat×Ob)} (h:aC H0 r i=none) (hr:aM H0 r):aM H0 ((i,ob)::r)
theorem oh{H0:Hp}:∀{r:List (Nat×Ob)} {i:Nat},aC H0 r i=none->H0 i=none/\∀p∈r,p.1≠i
 |[],i,h=>⟨h,by simp⟩
 |(j,ob)::r,i,h=>by
  unfold aC at h
  by_cases hij:i=j
  ·subst hij;simp at h
  ·rw[dM _ _ hij] at h
   obtain⟨h1,h2⟩:=oh h
   refine⟨h1,λp hp=>?_⟩
   rcases List.mem_cons.1 hp with rfl|hp
   ·exact Ne.symm hij
   ·exact h2 p hp
theorem rM{H0:Hp}:∀{r:List (Nat×Ob)} {i:Nat},H0 i=none->(∀p∈r,p.1≠i)->aC H0 r i=none
 |[],i,h,_=>h
 |(j,ob)::r,i,h,h2=>by
  unfold aC
  rw[dM _ _ (Ne.symm (h2 (j,ob) (by simp)))]
  exact rM h (λp hp=>h2 p (by simp[hp]))
theorem aM.at_{H0:Hp}:∀{r:List (Nat×Ob)} {k i:Nat} {ob:Ob},aM H0 r->r[k]? =some (i,ob)->aC H0 r i=some ob
 |[],k,i,ob,_,h=>by simp at h
 |(j,o)::r,0,i,ob,_,h=>by simp at h;obtain⟨rfl,rfl⟩:=h;simp[aC]
 |(j,o)::r,k+1,i,ob,.cons h1 h2,h=>by
  have h3:=aM.at_ h2 (k:=k) (by simpa using h)
  have:i≠j:=by rintro rfl;rw[h3] at h1;cases h1
  unfold aC
  rw[dM _ _ this]
  exact h3
theorem aM.base{H0:Hp}:∀{r:List (Nat×Ob)} {k i:Nat} {ob:Ob},aM H0 r->r[k]? =some (i,ob)->H0 i=none
 |[],k,i,ob,_,h=>by simp at h
 |(j,o)::r,0,i,ob,.cons h1 h2,h=>by simp at h;obtain⟨rfl,rfl⟩:=h;exact(oh h1).1
 |(j,o)::r,k+1,i,ob,.cons h1 h2,h=>aM.base h2 (k:=k) (by simpa using h)
theorem aM.jF{H0:Hp}:∀{r:List (Nat×Ob)} {k i:Nat} {ob:Ob} (xc:Ob),aM H0 r->r[k]? =some (i,ob)->set (aC H0 r) i (some xc)=aC H0 (r.set k (i,xc))/\aM H0 (r.set k (i,xc))
 |[],k,i,ob,_,_,h=>by simp at h
 |(j,o)::r,0,i,ob,xc,.cons h1 h2,h=>by
  simp at h;obtain⟨rfl,rfl⟩:=h
  refine⟨?_,.cons h1 h2⟩
  funext t
  simp only[List.set_cons_zero,aC,fT.set]
  split<;>rfl
 |(j,o)::r,k+1,i,ob,xc,.cons h1 h2,h=>by
  have hk:r[k]? =some (i,ob):=by simpa using h
  have h3:=aM.at_ h2 hk
  have hij:i≠j:=by rintro rfl;rw[h3] at h1;cases h1
  obtain⟨h4,h5⟩:=aM.jF xc h2 hk
  refine⟨?_,?_⟩
  ·rw[List.set_cons_succ]
   show _=set (aC H0 (r.set k (i,xc))) j (some o)
   rw[<-h4]
   funext t
   simp only[aC,fT.set]
   split
   ·rename_i ht;subst ht;rw[if_neg hij]
   ·rfl
  ·rw[List.set_cons_succ]
   refine .cons ?_ h5
   rw[<-h4,dM _ _ (Ne.symm hij)]
   exact h1
theorem aM.kill{H0:Hp}:∀{r:List (Nat×Ob)} {k i:Nat} {ob:Ob},aM H0 r->r[k]? =some (i,ob)->set (aC H0 r) i none=aC H0 (r.eraseIdx k)/\aM H0 (r.eraseIdx k)
 |[],k,i,ob,_,h=>by simp at h
 |(j,o)::r,0,i,ob,.cons h1 h2,h=>by
  simp at h;obtain⟨rfl,rfl⟩:=h
  refine⟨?_,by simpa using h2⟩
  funext t
  simp only[List.eraseIdx_cons_zero,aC,fT.set]
  split
  ·rename_i ht;subst ht;exact h1.symm
  ·rfl
 |(j,o)::r,k+1,i,ob,.cons h1 h2,h=>by
  have hk:r[k]? =some (i,ob):=by simpa using h
  have h3:=aM.at_ h2 hk
  have hij:i≠j:=by rintro rfl;rw[h3] at h1;cases h1
  obtain⟨h4,h5⟩:=aM.kill h2 hk
  refine⟨?_,?_⟩
  ·rw[List.eraseIdx_cons_succ]
   show _=set (aC H0 (r.eraseIdx k)) j (some o)
   rw[<-h4]
   funext t
   simp only[aC,fT.set]
   split
   ·rename_i ht;subst ht;rw[if_neg hij]
   ·rfl
  ·rw[List.eraseIdx_cons_succ]
   refine .cons ?_ h5
   rw[<-h4,dM _ _ (Ne.symm hij)]
   exact h1
theorem fU{H0:Hp}{r r':List (Nat×Ob)}(hd:aM H0 r)(hd':aM H0 r')(h:∀p∈r',p∈r):Sub (aC H0 r') (aC H0 r):=by
 intro i ob hi
 have key:∀{ob:Ob} {r':List (Nat×Ob)},aM H0 r'->aC H0 r' i=some ob->(i,ob)∈r'\/(H0 i=some ob):=by
  intro ob r' hd'
  induction hd' with
  |nil=>exactλh=> .inr h
  | @cons j o r h1 h2 ih=>
    intro h
    unfold aC at h
    by_cases hij:i=j
    ·subst hij;rw[set_self] at h;cases h;exact .inl (by simp)
    ·rw[dM _ _ hij] at h
     rcases ih h with h|h
     ·exact .inl (by simp[h])
     ·exact .inr h
 rcases key hd' hi with h1|h1
 ·obtain⟨k,hk⟩:=List.getElem?_of_mem (h _ h1)
  exact hd.at_ hk
 ·cases he:aC H0 r i with
  |none=>rw[(oh he).1] at h1;cases h1
  |some ob2=>
   rcases key hd he with h2|h2
   ·obtain⟨k,hk⟩:=List.getElem?_of_mem h2
    rw[hd.base hk] at h1;cases h1
   ·rw[h1] at h2;exact h2.symm
theorem aM.sub{H0:Hp}{r r':List (Nat×Ob)}(hd:aM H0 r)(h:r'.Sublist r):aM H0 r':=by
 induction h with
 |slnil=>exact .nil
 |cons a h ih=>cases hd with|cons h1 h2=>exact ih h2
 | @cons_cons l1 l2 a h ih=>
   obtain⟨i,ob⟩:=a
   cases hd with
   |cons h1 h2=>
    refine .cons ?_ (ih h2)
    obtain⟨a1,a2⟩:=oh h1
    exact rM a1 (λp hp=>a2 p (h.subset hp))
section
variable {P:Program} {n:Nat} {ops:Array Oper} {Q:qH->Sl->Hp->Prop} {H0:Hp} {l:List (Nat×AV)} {I:List (Nat×Ob)} {rest:List Oper} {o:Oper} {c:Code}
def US(P:Program)(n:Nat)(ops:Array Oper)(Q:qH->Sl->Hp->Prop)(H0:Hp)(rest:List Oper)(l:List (Nat×AV))(I:List (Nat×Ob)):Prop:=
 aM H0 I->uo P n ops Q rest (fI l) (aC H0 I)
def UW(P:Program)(n:Nat)(Q:qH->Sl->Hp->Prop)(H0:Hp)(c:Code)(l:List (Nat×AV))(I:List (Nat×Ob)):Prop:=
 aM H0 I->AW P n c Q (fI l) (aC H0 I)
def UQ(Q:qH->Sl->Hp->Prop)(H0:Hp)(e:qH)(l:List (Nat×AV))(I:List (Nat×Ob)):Prop:=aM H0 I->Q e (fI l) (aC H0 I)
theorem UW.seq{x y:Code}(h:UW P n (lS (AW P n y Q) Q) H0 x l I):UW P n Q H0 (.seq x y) l I:=λhd=>AW.seq (h hd)
theorem UW.region{id:Nat}{ol:List Oper}(h:US P n ol.toArray Q H0 ol l I):UW P n Q H0 (.region id ol.toArray false) l I:=λhd=>AW.Ng (h hd)
theorem UW.block{id:Nat}(h:UW P n (kY id Q) H0 c l I):UW P n Q H0 (.block id c) l I:=λhd=>AW.block (h hd)
theorem UW.skip(h:UQ Q H0 .normal l I):UW P n Q H0 .skip l I:=λhd=>AW.skip (h hd)
theorem UW.exit{id:Nat}(h:UQ Q H0 (.exit id) l I):UW P n Q H0 (.exit id) l I:=λhd=>AW.exit (h hd)
theorem UW.ret(h:UQ Q H0 .ret l I):UW P n Q H0 .ret l I:=λhd=>AW.ret (h hd)
theorem US.nil(h:UQ Q H0 .normal l I):US P n ops Q H0 [] l I:=λhd=>uo.nil (h hd)
theorem UQ.then{y:Code}(h:UW P n Q H0 y l I):UQ (lS (AW P n y Q) Q) H0 .normal l I:=h
theorem UQ.pass{N:Sl->Hp->Prop}{id:Nat}(h:UQ Q H0 (.exit id) l I):UQ (lS N Q) H0 (.exit id) l I:=h
theorem UQ.ax{N:Sl->Hp->Prop}(h:UQ Q H0 .ret l I):UQ (lS N Q) H0 .ret l I:=h
theorem UQ.here{id:Nat}(h:UQ Q H0 .normal l I):UQ (kY id Q) H0 (.exit id) l I:=λhd=>by
 simp only[kY,if_true];exact h hd
theorem UQ.out{id id':Nat}(hne:id'≠id)(h:UQ Q H0 (.exit id') l I):UQ (kY id Q) H0 (.exit id') l I:=λhd=>by
 simp only[kY,if_neg hne];exact h hd
theorem UQ.aB{id:Nat}(h:UQ Q H0 .normal l I):UQ (kY id Q) H0 .normal l I:=h
theorem UQ.aH{id:Nat}(h:UQ Q H0 .ret l I):UQ (kY id Q) H0 .ret l I:=h
theorem aG{x:Operand}{u:AV}(h:aT l x=some u):ev (fI l) x=u:=by
 cases x with
 |tmp t=>
  have h':look l t=some u:=h
  show(look l t).getD .any=u
  rw[h'];rfl
 |const x=>cases h;rfl
 |global g=>cases h;rfl
 |func f=>cases h;rfl
theorem US.step{d:Nat}(hd:o.dst=some d)(hn:d<n)(h:aM H0 I->Does P n ops o (fI l) (aC H0 I) (λu H'=>∃aL,H'=aC H0 aL/\aM H0 aL/\US P n ops Q H0 rest ((d,u)::l) aL)):US P n ops Q H0 (o::rest) l I:=by
 intro ay
 refine uo.cons ((h ay).mono ?_)
 rintro u H' ⟨aL,rfl,h1,h2⟩
 have:=h2 h1
 rw[<-Ck] at this
 simpa[CL,hd,hn] using this
theorem US.step0(hd:o.dst=none)(h:aM H0 I->Does P n ops o (fI l) (aC H0 I) (λ_ H'=>∃aL,H'=aC H0 aL/\aM H0 aL/\US P n ops Q H0 rest l aL)):US P n ops Q H0 (o::rest) l I:=by
 intro ay
 refine uo.cons ((h ay).mono ?_)
 rintro u H' ⟨aL,rfl,h1,h2⟩
 simpa[CL,hd] using h2 h1
variable {d:Nat} {x y:Operand} {u:AV} {t e sz b:Nat} {id off k:Nat} {ob:Ob} {cells:List AV} {rows:List (List AV)}
theorem US.move(hd:o.dst=some d)(hn:d<n)(hg:o.guard=none)(ho:o.op=.move x)(hx:aT l x=some u)(hk:US P n ops Q H0 rest ((d,u)::l) I):US P n ops Q H0 (o::rest) l I:=
 US.step hd hn λay=>Does.move hg ho ⟨I,rfl,ay,by rw[aG hx];exact hk⟩
theorem US.assign(hd:o.dst=some d)(hn:d<n)(hg:o.guard=none)(ho:o.op=.assign x)(hx:aT l x=some u)(hk:US P n ops Q H0 rest ((d,u)::l) I):US P n ops Q H0 (o::rest) l I:=
 US.step hd hn λay=>Does.assign hg ho ⟨I,rfl,ay,by rw[aG hx];exact hk⟩
def oI:AV->Option (List AV)
 | .agg l=>some l
 |u=>some [u]
theorem fu{u:AV}{cs:List AV}(h:oI u=some cs):flat u=cs:=by
 cases u<;>simp_all[oI,flat]
theorem US.box(hd:o.dst=some d)(hn:d<n)(hg:o.guard=none)(ho:o.op=.box e x)(hx:aT l x=some u)(hf:oI u=some cells)(hc:cells.all aR=true)
 (hk:∀id,US P n ops Q H0 rest ((d,.ptr id 0)::l) ((id,.box e cells)::I)):US P n ops Q H0 (o::rest) l I:=
 US.step hd hn λay=>Does.box hg ho (by rw[aG hx,fu hf];exact hc) λid hid=>⟨(id,.box e cells)::I,by rw[aG hx,fu hf];rfl,.cons hid ay,hk id⟩
theorem US.alloc{z:Value}{zs:List AV}(hd:o.dst=some d)(hn:d<n)(hg:o.guard=none)(ho:o.op=.alloc e)(hz:(P.info? e).map (·.zero)=some (some z))(hc:z.cells.toList.all (·.oneCell')=true)(hzs:z.cells.toList.map AV.v=zs)
 (hk:∀id,US P n ops Q H0 rest ((d,.ptr id 0)::l) ((id,.box e zs)::I)):US P n ops Q H0 (o::rest) l I:=
 US.step hd hn λay=>Does.alloc hg ho hz hc λid hid=>⟨(id,.box e zs)::I,by rw[hzs];rfl,.cons hid ay,hk id⟩
theorem US.uz{ls rs:List AV}(hd:o.dst=some d)(hn:d<n)(hg:o.guard=none)(ho:o.op=.load t x)(hx:aT l x=some (.ptr id off))(h2:I[k]? =some (id,ob))(ht:dY P t=some (true,sz))(hcs:cellsOf ob=ls)(hr:(ls.drop off).take sz=rs)(hs:off+sz<=ls.length)
 (hk:US P n ops Q H0 rest ((d,.agg rs)::l) I) (hm:Gg ob=true:=by rfl):US P n ops Q H0 (o::rest) l I:=
 US.step hd hn λay=>Does.uz hg ho (aG hx) (ay.at_ h2) ht (by rw[hcs];exact hs) ⟨I,rfl,ay,by rw[hcs,hr];exact hk⟩ (hm:=hm)
theorem US.nX{ls:List AV}(hd:o.dst=some d)(hn:d<n)(hg:o.guard=none)(ho:o.op=.load t x)(hx:aT l x=some (.ptr id off))(h2:I[k]? =some (id,ob))(ht:dY P t=some (false,sz))(hcs:cellsOf ob=ls)(hs:ls[off]? =some u)
 (hk:US P n ops Q H0 rest ((d,u)::l) I) (hm:Gg ob=true:=by rfl):US P n ops Q H0 (o::rest) l I:=
 US.step hd hn λay=>Does.nX hg ho (aG hx) (ay.at_ h2) ht (by rw[hcs];exact hs) ⟨I,rfl,ay,hk⟩ (hm:=hm)
theorem US.fB(hd:o.dst=some d)(hn:d<n)(hg:o.guard=none)(ho:o.op=.load t x)(hx:aT l x=some (.rp cells))(ht:dY P t=some (true,sz))(hl:cells.length=sz)
 (hk:US P n ops Q H0 rest ((d,.agg cells)::l) I):US P n ops Q H0 (o::rest) l I:=
 US.step hd hn λay=>Does.fB hg ho (aG hx) (by rw[hl];exact ht) ⟨I,rfl,ay,hk⟩
theorem US.bD{r:List AV}(hd:o.dst=some d)(hn:d<n)(hg:o.guard=none)(ho:o.op=.load t x)(hx:aT l x=some (.rp (u::r)))(ht:dY P t=some (false,sz))
 (hk:US P n ops Q H0 rest ((d,u)::l) I):US P n ops Q H0 (o::rest) l I:=
 US.step hd hn λay=>Does.bD hg ho (aG hx) ht ⟨I,rfl,ay,hk⟩
theorem US.nY{ls ls':List AV}{bb:Bool}(hd:o.dst=none)(hg:o.guard=none)(ho:o.op=.store t x y)(hx:aT l x=some (.ptr id off))(h2:I[k]? =some (id,.box e ls))(hy:aT l y=some u)(hf:oI u=some cells)(hc:cells.all aR=true)
 (ht:dY P t=some (bb,sz)) (hl:cells.length=sz) (hs:off+sz<=ls.length) (hr:fH ls off cells=ls')
 (hk:US P n ops Q H0 rest l (I.set k (id,.box e ls'))):US P n ops Q H0 (o::rest) l I:=
 US.step0 hd λay=>Does.nY hg ho (aG hx) (ay.at_ h2) (by rw[aG hy,fu hf];exact hc) (by rw[aG hy,fu hf,hl];exact ht) (by rw[aG hy,fu hf,hl];exact hs)
  ⟨_,by rw[aG hy,fu hf,hr];exact(ay.jF _ h2).1,(ay.jF _ h2).2,hk⟩
theorem US.fieldAddr{f off':Nat}(hd:o.dst=some d)(hn:d<n)(hg:o.guard=none)(ho:o.op=.fieldAddr t x f)(hx:aT l x=some (.ptr id off))(h:dE P t f=some off')
 (hk:US P n ops Q H0 rest ((d,.ptr id (off+off'))::l) I):US P n ops Q H0 (o::rest) l I:=
 US.step hd hn λay=>Does.fieldAddr hg ho (aG hx) h ⟨I,rfl,ay,hk⟩
theorem US.bI{ki:IntKind}{i:Int}{cs:List AV}(hd:o.dst=some d)(hn:d<n)(hg:o.guard=none)(ho:o.op=.indexAddr t x y)(ht:j6 P t=some (e,sz,b))(hx:aT l x=some (.sl rows))(hy:aT l y=some (.v (.int ki i)))(h0:0<=i)(h1:rows[i.toNat]? =some cs)(hs:cs.length=sz)
 (hk:US P n ops Q H0 rest ((d,.rp cs)::l) I):US P n ops Q H0 (o::rest) l I:=
 US.step hd hn λay=>Does.bI hg ho ht (aG hx) (aG hy) h0 h1 hs ⟨I,rfl,ay,hk⟩
theorem US.bu{ki:IntKind}{i c:Int}{str:ByteArray}(hd:o.dst=some d)(hn:d<n)(hg:o.guard=none)(ho:o.op=.index t x y)(ht:P.underlying t=some .string)(hx:aT l x=some (.v (.string str)))(hy:aT l y=some (.v (.int ki i)))(h0:0<=i)(h1:i<str.size)(hcc:c=((str[i.toNat]'(by omega)).toNat:Int))
 (hk:US P n ops Q H0 rest ((d,.v (.int .u8 c))::l) I):US P n ops Q H0 (o::rest) l I:=
 US.step hd hn λay=>Does.bu hg ho ht (aG hx) (aG hy) h0 h1 hcc ⟨I,rfl,ay,hk⟩
inductive lh (l:List (Nat×AV)) (len:Nat):Option Operand->Option Operand->Nat->Nat->Prop
 |all:lh l len none none 0 len
 |lo {x:Operand} {k:IntKind} {a:Nat} (h:aT l x=some (.v (.int k (a:Int)))):lh l len (some x) none a len
 |hi {x:Operand} {k:IntKind} {a:Nat} (h:aT l x=some (.v (.int k (a:Int)))):lh l len none (some x) 0 a
 |both {x y:Operand} {k k':IntKind} {a a':Nat} (h:aT l x=some (.v (.int k (a:Int)))) (hh:aT l y=some (.v (.int k' (a':Int)))):lh l len (some x) (some y) a a'
theorem lh.to{len a a':Nat}{lo hi:Option Operand}(h:lh l len lo hi a a'):BV (fI l) len lo hi a a':=by
 cases h with
 |all=>exact .all
 |lo h=>exact .lo _ _ _ (aG h)
 |hi h=>exact .hi _ _ _ (aG h)
 |both h hh=>exact .both _ _ _ _ _ _ (aG h) (aG hh)
theorem US.nZ{lo hi:Option Operand}{a a':Nat}{str:ByteArray}(hd:o.dst=some d)(hn:d<n)(hg:o.guard=none)(ho:o.op=.slice t x lo hi none)(ht:P.underlying t=some .string)(hx:aT l x=some (.v (.string str)))
 (hb:lh l str.size lo hi a a') (h1:a<=a') (h2:a'<=str.size) (hk:US P n ops Q H0 rest ((d,.v (.string (str.extract a a')))::l) I):US P n ops Q H0 (o::rest) l I:=
 US.step hd hn λay=>Does.nZ hg ho ht (aG hx) hb.to h1 h2 ⟨I,rfl,ay,hk⟩
theorem US.fC(hd:o.dst=some d)(hn:d<n)(hg:o.guard=none)(ho:o.op=.call {callee:=.builtin .len,args:= #[x],argTypes:= #[t]})(ht:j6 P t=some (e,sz,b))(hx:aT l x=some (.sl rows))
 (hk:US P n ops Q H0 rest ((d,.v (.int .i64 (rows.length:Int)))::l) I):US P n ops Q H0 (o::rest) l I:=
 US.step hd hn λay=>Does.fC hg ho ht (aG hx) ⟨I,rfl,ay,hk⟩
theorem US.il{len:Nat}(hd:o.dst=some d)(hn:d<n)(hg:o.guard=none)(ho:o.op=.call {callee:=.builtin .len,args:= #[x],argTypes:= #[t]})(ht:j6 P t=some (e,sz,b))(hx:aT l x=some (.own id off len sz))
 (hk:US P n ops Q H0 rest ((d,.v (.int .i64 (len:Int)))::l) I):US P n ops Q H0 (o::rest) l I:=
 US.step hd hn λay=>Does.il hg ho ht (aG hx) ⟨I,rfl,ay,hk⟩
theorem US.qa{str:ByteArray}(hd:o.dst=some d)(hn:d<n)(hg:o.guard=none)(ho:o.op=.call {callee:=.builtin .len,args:= #[x],argTypes:= #[t]})(ht:P.underlying t=some .string)(hx:aT l x=some (.v (.string str)))
 (hk:US P n ops Q H0 rest ((d,.v (.int .i64 (str.size:Int)))::l) I):US P n ops Q H0 (o::rest) l I:=
 US.step hd hn λay=>Does.qa hg ho ht (aG hx) ⟨I,rfl,ay,hk⟩
theorem US.az{op:BinOp}{t2:Nat}{ki:IntKind}{a c:Int}{r:Value}(hd:o.dst=some d)(hn:d<n)(hg:o.guard=none)(ho:o.op=.binOp op t x y t2)(hx:aT l x=some (.v (.int ki a)))(hy:aT l y=some (.v (.int ki c)))(h:dZ op ki a c=some r)
 (hk:US P n ops Q H0 rest ((d,.v r)::l) I):US P n ops Q H0 (o::rest) l I:=
 US.step hd hn λay=>Does.az hg ho (aG hx) (aG hy) h ⟨I,rfl,ay,hk⟩
theorem US.vL{t2:Nat}{ki kj:IntKind}{a c r:Int}(hd:o.dst=some d)(hn:d<n)(hg:o.guard=none)(ho:o.op=.binOp .shr t x y t2)(hx:aT l x=some (.v (.int ki a)))(hy:aT l y=some (.v (.int kj c)))(hb:0<=c)(hr:a.fdiv (2^min c.toNat ki.bits)=r)
 (hk:US P n ops Q H0 rest ((d,.v (.int ki r))::l) I):US P n ops Q H0 (o::rest) l I:=
 US.step hd hn λay=>Does.vL hg ho (aG hx) (aG hy) hb ⟨I,rfl,ay,by rw[hr];exact hk⟩
theorem US.iG{op:BinOp}{t2:Nat}{a c:ByteArray}{r:Bool}(hd:o.dst=some d)(hn:d<n)(hg:o.guard=none)(ho:o.op=.binOp op t x y t2)(hx:aT l x=some (.v (.string a)))(hy:aT l y=some (.v (.string c)))(h:eH op a c=some r)
 (hk:US P n ops Q H0 rest ((d,.v (.bool r))::l) I):US P n ops Q H0 (o::rest) l I:=
 US.step hd hn λay=>Does.iG hg ho (aG hx) (aG hy) h ⟨I,rfl,ay,hk⟩
theorem US.Cj{t2:Nat}(hd:o.dst=some d)(hn:d<n)(hg:o.guard=none)(ho:o.op=.binOp .eql t x (.const (.slice none 0 0)) t2)(ht:P.underlying t=some (.slice e))(hx:aT l x=some (.sl rows))
 (hk:∀c:Bool,(c=true->rows=[])->US P n ops Q H0 rest ((d,.v (.bool c))::l) I):US P n ops Q H0 (o::rest) l I:=
 US.step hd hn λay=>Does.Cj (m:=rows.length) hg ho ht U (λρ w z hz=>by
  rw[aG hx] at hz
  cases hz with
  |nil=>exact⟨none,0,rfl,λ_=>rfl⟩
  |sl _ a cap sz vals h1 h2 h3 h4 h5 h6=>exact⟨_,_,rfl,λh=>by cases h⟩) λc hc=>⟨I,rfl,ay,hk c (λh=>List.eq_nil_of_length_eq_zero (hc h))⟩
theorem US.not{a:Bool}(hd:o.dst=some d)(hn:d<n)(hg:o.guard=none)(ho:o.op=.unOp .not t x)(hx:aT l x=some (.v (.bool a)))
 (hk:US P n ops Q H0 rest ((d,.v (.bool (!a)))::l) I):US P n ops Q H0 (o::rest) l I:=
 US.step hd hn λay=>Does.not hg ho (aG hx) ⟨I,rfl,ay,hk⟩
theorem US.yJ{s2:Nat}{ki kj:IntKind}{a:Int}(hd:o.dst=some d)(hn:d<n)(hg:o.guard=none)(ho:o.op=.convert t s2 x)(hs:(P.underlying t).isSome=true)(ht:P.underlying s2=some (.int kj))(hx:aT l x=some (.v (.int ki a)))
 (hk:US P n ops Q H0 rest ((d,.v (.int kj (kj.wrap a)))::l) I):US P n ops Q H0 (o::rest) l I:=
 US.step hd hn λay=>Does.yJ hg ho hs ht (aG hx) ⟨I,rfl,ay,hk⟩
theorem US.min2{at_:Array TypeId}{ki kj:IntKind}{a c:Int}(hd:o.dst=some d)(hn:d<n)(hg:o.guard=none)(ho:o.op=.call {callee:=.builtin .min,args:= #[x,y],argTypes:=at_})(hx:aT l x=some (.v (.int ki a)))(hy:aT l y=some (.v (.int kj c)))
 (hk:US P n ops Q H0 rest ((d,.v (.int ki (if c<a then c else a)))::l) I):US P n ops Q H0 (o::rest) l I:=
 US.step hd hn λay=>Does.min2 hg ho (aG hx) (aG hy) ⟨I,rfl,ay,hk⟩
theorem US.max2{at_:Array TypeId}{ki kj:IntKind}{a c:Int}(hd:o.dst=some d)(hn:d<n)(hg:o.guard=none)(ho:o.op=.call {callee:=.builtin .max,args:= #[x,y],argTypes:=at_})(hx:aT l x=some (.v (.int ki a)))(hy:aT l y=some (.v (.int kj c)))
 (hk:US P n ops Q H0 rest ((d,.v (.int ki (if c>a then c else a)))::l) I):US P n ops Q H0 (o::rest) l I:=
 US.step hd hn λay=>Does.max2 hg ho (aG hx) (aG hy) ⟨I,rfl,ay,hk⟩
inductive rO (I:List (Nat×Ob)) (sz:Nat):AV->List (List AV)->Prop
 |sl {rows:List (List AV)} (h:∀cs∈rows,cs.length=sz):rO I sz (.sl rows) rows
 |nil:rO I sz (.v (.slice none 0 0)) []
 |own {k id off len e:Nat} {iJ rs:List (List AV)} (h:I[k]? =some (id,.row e sz iJ)) (hle:off+len<=iJ.length) (hr:(iJ.drop off).take len=rs):rO I sz (.own id off len sz) rs
theorem rO.to(hd:aM H0 I){u:AV}{rs:List (List AV)}(h:rO I sz u rs):Src (aC H0 I) sz u rs:=by
 cases h with
 |sl h=>exact .sl _ h
 |nil=>exact .nil
 |own h hle hr=>subst hr;exact .own _ _ _ _ _ (hd.at_ h) hle
theorem US.gQ{s:Operand}{len:Nat}{news rs:List (List AV)}(hd:o.dst=some d)(hn:d<n)(hg:o.guard=none)(ho:o.op=.call {callee:=.builtin .append,args:= #[s,x],argTypes:= #[t,t]})(ht:jE P t e sz b)
 (hs:aT l s=some (.own id 0 len sz)) (h2:I[k]? =some (id,.row e sz rows)) (hle:len<=rows.length) (hx:aT l x=some u) (hsrc:rO I sz u news) (hb:(len+news.length)*b<=140737488355328) (hr:rows.take len++news=rs)
 (hk:∀id',US P n ops Q H0 rest ((d,.own id' 0 (len+news.length) sz)::l) ((id',.row e sz rs)::I.eraseIdx k)):US P n ops Q H0 (o::rest) l I:=
 US.step hd hn λay=>by
  have oJ:=ay.kill h2
  refine Does.gQ hg ho ht (aG hs) (ay.at_ h2) hle (by rw[aG hx];exact hsrc.to ay) hb λid' hid=>⟨(id',.row e sz rs)::I.eraseIdx k,?_,?_,hk id'⟩
  ·rw[oJ.1,hr];rfl
  ·refine .cons ?_ oJ.2
   rw[<-oJ.1]
   by_cases h:id'=id
   ·subst h;simp
   ·rw[dM _ _ h];exact hid
def gW(l:List (Nat×AV)):List Operand->Option (List AV)
 |[]=>some []
 |x::r=>match aT l x,gW l r with
  |some u,some us=>some (u::us)
  |_,_=>none
theorem jC:∀{xs:List Operand} {us:List AV},gW l xs=some us->xs.map (ev (fI l))=us
 |[],us,h=>by cases h;rfl
 |x::r,us,h=>by
  unfold gW at h
  split at h
  ·rename_i u lT h1 h2
   cases h
   rw[List.map_cons,aG h1,jC h2]
  ·cases h
theorem US.call{f:Nat}{cc:Operand}{args:Array Operand}{at_:Array TypeId}{bS us:List AV}{K:AV->Hp->Prop}(hd:o.dst=some d)(hn:d<n)(hg:o.guard=none)(ho:o.op=.call {callee:=.value cc,args:=args,argTypes:=at_})(hc:aT l cc=some (.gN f bS))(ha:gW l args.toList=some us)
 (h:aM H0 I->au P f (us++bS) (aC H0 I) K) (hk:∀u H',K u H'->∃aL,H'=aC H0 aL/\(aM H0 I->aM H0 aL)/\US P n ops Q H0 rest ((d,u)::l) aL):US P n ops Q H0 (o::rest) l I:=
 US.step hd hn λay=>Does.call hg ho (aG hc) (by
  rw[jC ha]
  exact(h ay).mono λu H' hK=>by
   obtain⟨aL,e1,e2,e3⟩:=hk u H' hK
   exact⟨aL,e1,e2 ay,e3⟩)
theorem US.dz{f:Nat}{cc:Operand}{args:Array Operand}{at_:Array TypeId}{bS us:List AV}{r:AV}(hd:o.dst=some d)(hn:d<n)(hg:o.guard=none)(ho:o.op=.call {callee:=.value cc,args:=args,argTypes:=at_})(hc:aT l cc=some (.gN f bS))(ha:gW l args.toList=some us)
 (h:aM H0 I->au P f (us++bS) (aC H0 I) (λu H'=>u=r/\H'=aC H0 I)) (hk:US P n ops Q H0 rest ((d,r)::l) I):US P n ops Q H0 (o::rest) l I:=
 US.call hd hn hg ho hc ha h λu H' ⟨h1,h2⟩=>⟨I,h2,λx=>x,by rw[h1];exact hk⟩
theorem US.lq{f:Nat}{cc:Operand}{args:Array Operand}{at_:Array TypeId}{bS us:List AV}{R:AV->List (Nat×Ob)->Prop}(hd:o.dst=some d)(hn:d<n)(hg:o.guard=none)(ho:o.op=.call {callee:=.value cc,args:=args,argTypes:=at_})(hc:aT l cc=some (.gN f bS))(ha:gW l args.toList=some us)
 (h:aM H0 I->au P f (us++bS) (aC H0 I) (λu H'=>∃news,aM (aC H0 I) news/\H'=aC (aC H0 I) news/\R u news)) (hk:∀u news,R u news->US P n ops Q H0 rest ((d,u)::l) (news++I)):US P n ops Q H0 (o::rest) l I:=by
 have hap:∀news:List (Nat×Ob),aC (aC H0 I) news=aC H0 (news++I):=by
  intro news
  induction news with
  |nil=>rfl
  |cons p r ih=>obtain⟨i,ob⟩:=p;show set _ _ _=set _ _ _;rw[ih];rfl
 have hdi:aM H0 I->∀news:List (Nat×Ob),aM (aC H0 I) news->aM H0 (news++I):=by
  intro ay news hnew
  induction hnew with
  |nil=>exact ay
  | @cons i ob r h1 h2 ih=>exact .cons (show aC H0 (r++I) i=none by rw[<-hap];exact h1) ih
 intro ZQ
 exact US.call (Q:=Q) (rest:=rest) hd hn hg ho hc ha h (λu H' ⟨news,h1,h2,h3⟩=>⟨news++I,by rw[h2,hap],λay=>hdi ay news h1,hk u news h3⟩) ZQ
theorem US.on{g:Nat×Bool}{dg:Nat}(hg:o.guard=some g)(hdg:(ops[g.1]?).bind (·.dst)=some dg)(hdn:dg<n)(hT:look l dg=some (.v (.bool g.2)))
 (h:US P n ops Q H0 ({o with guard:=none}::rest) l I):US P n ops Q H0 (o::rest) l I:=by
 intro ay E a w hi
 have h1:=h ay E a w hi
 have hw:Region.wanted o (yielded ops a.tmps)=true:=by
  obtain⟨ρ,_,_,h4⟩:=hi.rel
  have h5:=h4 dg
  have h6:fI l dg=.v (.bool g.2):=by unfold fI;rw[hT];rfl
  rw[h6] at h5
  have h7:=aS h5
  have:a.tmps[dg]? =some (.bool g.2):=by
   rw[Array.getD_eq_getD_getElem?,Array.getElem?_eq_getElem (by rw[hi.size];exact hdn)] at h7
   rw[Array.getElem?_eq_getElem (by rw[hi.size];exact hdn)]
   simpa using h7
  simp[Region.wanted,hg,yielded,hdg,this]
 unfold wpListIn at h1⊢
 rw[if_pos hw]
 rw[if_pos (by simp[Region.wanted])] at h1
 exact h1
theorem US.CX{g:Nat×Bool}{dg:Nat}{bb:Bool}(hd:o.dst=some d)(hn:d<n)(hg:o.guard=some g)(hdg:(ops[g.1]?).bind (·.dst)=some dg)(hT:look l dg=some (.v (.bool bb)))(hb:bb=!g.2)
 (hk:US P n ops Q H0 rest ((d,.v undef)::l) I):US P n ops Q H0 (o::rest) l I:=by
 intro ay E a w hi
 have hw:¬Region.wanted o (yielded ops a.tmps)=true:=by
  obtain⟨ρ,_,_,h4⟩:=hi.rel
  have h5:=h4 dg
  have h6:fI l dg=.v (.bool bb):=by unfold fI;rw[hT];rfl
  rw[h6] at h5
  have h7:=aS h5
  have h8:a.tmps[dg]? =none\/a.tmps[dg]? =some (a.tmps.getD dg undef):=by
   rw[Array.getD_eq_getD_getElem?]
   cases h:a.tmps[dg]? <;>simp
  rw[h7] at h8
  rcases h8 with h8|h8<;>cases hgb:g.2<;>simp[Region.wanted,hg,yielded,hdg,h8,hb,hgb]
 unfold wpListIn
 rw[if_neg hw]
 refine⟨λ_ _=>trivial,?_⟩
 obtain⟨ρ,e1,e2,e3⟩:=hi.rel
 have hi2:Inv E n (fI ((d,.v undef)::l)) (aC H0 I) (a.put o.dst undef) w:=by
  refine⟨by simp only[Act.put];split<;>simp[hi.size],by rw[put_defers];exact hi.defers,ρ,e1,e2,?_⟩
  have:=vK (n:=n) hi.size e3 o.dst (dU.v undef)
  rw[hd] at this⊢
  simp only[CL,hn,if_true,Ck] at this
  exact this
 exact hk ay E _ w hi2
theorem UW.cond{cc:Operand}{y1 y2:Code}{bb:Bool}(hc:aT l cc=some (.v (.bool bb)))(ht:bb=true->UW P n Q H0 y1 l I)(hf:bb=false->UW P n Q H0 y2 l I):UW P n Q H0 (.cond cc y1 y2) l I:=
 λhd=>AW.cond bb (aG hc) (λh=>ht h hd) (λh=>hf h hd)
def QC(l:List (Nat×AV)):List (Nat×AV)->Prop
 |[]=>True
 |p::r=>look l p.1=some p.2/\QC l r
theorem QC.look:∀{l':List (Nat×AV)},QC l l'->∀{t:Nat} {u:AV},fT.look l' t=some u->fT.look l t=some u
 |[],_,t,u,h=>by cases h
 |(d,v)::r,⟨h1,h2⟩,t,u,h=>by
  unfold fT.look at h
  split at h
  ·rename_i ht;subst ht;cases h;exact h1
  ·exact QC.look h2 h
theorem vM{l':List (Nat×AV)}{aL:List (Nat×Ob)}(h:QC l l')(hs:Sub (aC H0 aL) (aC H0 I)):∀t,bL (aC H0 I) (fI l t) (aC H0 aL) (fI l' t):=by
 intro t
 unfold fI
 cases h1:fT.look l' t with
 |none=>exact bL.any _ _
 |some u=>rw[h.look h1];exact bL.drop hs u
theorem UW.keep(l':List (Nat×AV))(aL:List (Nat×Ob))(h:QC l l')(ho:aL.Sublist I)(hk:UW P n Q H0 c l' aL):UW P n Q H0 c l I:=λhd=>by
 have hd':=hd.sub ho
 have hs:=fU hd hd' (λp hp=>ho.subset hp)
 exact AW.turn hs (vM h hs) (hk hd')
theorem US.keep(l':List (Nat×AV))(aL:List (Nat×Ob))(h:QC l l')(ho:aL.Sublist I)(hk:US P n ops Q H0 rest l' aL):US P n ops Q H0 rest l I:=λhd=>by
 have hd':=hd.sub ho
 have hs:=fU hd hd' (λp hp=>ho.subset hp)
 exact uo.turn hs (vM h hs) (hk hd')
theorem UW.loop{α:Type}(L:α->List (Nat×AV))(O:α->List (Nat×Ob))(J:α->Prop)(μ:α->Nat)(a0:α)(h0:J a0)(hl:QC l (L a0))(ho:(O a0).Sublist I)
 (round:∀a,J a->UW P n (lS (λT H=>∃a',J a'/\μ a'<μ a/\aM H0 (O a')/\T=fI (L a')/\H=aC H0 (O a')) Q) H0 c (L a) (O a)):UW P n Q H0 (.loop c) l I:=by
 refine UW.keep (L a0) (O a0) hl ho λhd=>?_
 refine AW.loop (λm T H=>∃a,J a/\μ a=m/\aM H0 (O a)/\T=fI (L a)/\H=aC H0 (O a)) (μ a0) ⟨a0,h0,rfl,hd,rfl,rfl⟩ ?_
 rintro m T H ⟨a,hJ,rfl,hd',rfl,rfl⟩
 refine(round a hJ hd').mono ?_
 intro e T' H' hq
 cases e with
 |normal=>obtain⟨a',h1,h2,h3,h4,h5⟩:=hq;exact⟨μ a',h2,a',h1,rfl,h3,h4,h5⟩
 |exit id=>exact hq
 |goto l=>exact hq
 |ret=>exact hq
theorem US.round{α:Type}{L:α->List (Nat×AV)}{O:α->List (Nat×Ob)}{J:α->Prop}{μ:α->Nat}{m:Nat}(a':α)(hJ:J a')(hm:μ a'<m)(hl:QC l (L a'))(ho:(O a').Sublist I):
 US P n ops (lS (λT H=>∃a',J a'/\μ a'<m/\aM H0 (O a')/\T=fI (L a')/\H=aC H0 (O a')) Q) H0 [] l I:=
 US.keep (L a') (O a') hl ho λhd=>uo.nil ⟨a',hJ,hm,hd,rfl,rfl⟩
def Gi:List AV->Nat->List (Nat×AV)
 |[],_=>[]
 |u::r,k=>(k,u)::Gi r (k+1)
theorem CY:∀(us:List AV) (k t:Nat),k<=t->look (Gi us k) t=us[t-k]?
 |[],k,t,_=>by simp[Gi,look]
 |u::r,k,t,h=>by
  simp only[Gi,look]
  by_cases ht:t=k
  ·subst ht;simp
  ·rw[if_neg ht,CY r (k+1) t (by omega)]
   have:t-k=(t-(k+1))+1:=by omega
   rw[this,List.getElem?_cons_succ]
def SL(P:Program)(fn:Func)(K:AV->Hp->Prop):qH->Sl->Hp->Prop:=λe T' H'=>(match e with| .normal| .ret=>True|_=>False)/\∃u H2,PM P T' H' fn u/\Sub H2 H'/\K u H2
theorem aF{f:Nat}{us:List AV}{K:AV->Hp->Prop}{fn:Func}(hf:P.funcs[f]? =some fn)(hname:(fn.name== "runtime.NumGoroutine")=false)(hb:fn.body=some c)(hn:us.length+(fn.ntmps-us.length)=n)(hd:aM H0 I)
 (h: @UW rd0 P n (SL P fn K) H0 c (Gi us 0) I):au P f us (aC H0 I) K:=by
 refine au.Vq hf hname hb hn ?_
 have:(λt=>us.getD t .any)=fI (Gi us 0):=by
  funext t
  unfold fI
  rw[CY us 0 t (Nat.zero_le _)]
  simp[List.getD_eq_getElem?_getD]
 rw[this]
 exact h hd
theorem retN{K:AV->Hp->Prop}{fn:Func}(aL:List (Nat×Ob))(hr:aM H0 I->PM P (fI l) (aC H0 I) fn u)(ho:aL.Sublist I)(hk:aM H0 aL->K u (aC H0 aL)):UQ (SL P fn K) H0 .normal l I:=λhd=>
 ⟨trivial,u,_,hr hd,fU hd (hd.sub ho) (λ_ hp=>ho.subset hp),hk (hd.sub ho)⟩
theorem bN{K:AV->Hp->Prop}{fn:Func}(aL:List (Nat×Ob))(hr:aM H0 I->PM P (fI l) (aC H0 I) fn u)(ho:aL.Sublist I)(hk:aM H0 aL->K u (aC H0 aL)):UQ (SL P fn K) H0 .ret l I:=λhd=>
 ⟨trivial,u,_,hr hd,fU hd (hd.sub ho) (λ_ hp=>ho.subset hp),hk (hd.sub ho)⟩
theorem ak{fn:Func}(hf:fn.results= #[.tmp t])(hx:look l t=some u):PM P (fI l) (aC H0 I) fn u:=by
 refine .inl ⟨_,hf,?_⟩
 have h1:fI l t=u:=by unfold fI;rw[hx];rfl
 rw[<-h1]
 exact .tmp t
theorem KQ{fn:Func}(hf:fn.results= #[]):PM P (fI l) (aC H0 I) fn (.kM []):=by
 refine .inr ⟨[],[],hf,by simp,rfl,rfl,λj r v h=>by simp at h⟩
theorem aU{fn:Func}{a:Nat}{ls:List AV}(hd:aM H0 I)(hf:fn.results= #[.cell a t])(hx:look l a=some (.ptr id 0))(h2:I[k]? =some (id,.box e ls))(hst:∃fs,P.underlying t=some (.struct fs))(hs:(P.info? t).map (·.size)=some ls.length):PM P (fI l) (aC H0 I) fn (.agg ls):=
 .inl ⟨_,hf,.cell a t id e ls (by unfold fI;rw[hx];rfl) (hd.at_ h2) (hst.elim λ_ h=>⟨_,h,rfl⟩) hs⟩
theorem Ae{fn:Func}{a m e2:Nat}{ls:List AV}(hd:aM H0 I)(hf:fn.results= #[.cell a t])(hx:look l a=some (.ptr id 0))(h2:I[k]? =some (id,.box e ls))(hst:P.underlying t=some (.array m e2))(hs:(P.info? t).map (·.size)=some ls.length):PM P (fI l) (aC H0 I) fn (.agg ls):=
 .inl ⟨_,hf,.cell a t id e ls (by unfold fI;rw[hx];rfl) (hd.at_ h2) ⟨_,hst,rfl⟩ hs⟩
theorem fJ{fn:Func}{r1 r2:ResultVar}{u1 u2:AV}(hf:fn.results= #[r1,r2])(h1:yF P (fI l) (aC H0 I) r1 u1)(h2:yF P (fI l) (aC H0 I) r2 u2):PM P (fI l) (aC H0 I) fn (.kM [u1,u2]):=by
 refine .inr ⟨[r1,r2],[u1,u2],hf,by simp,rfl,rfl,λj r v a b=>?_⟩
 cases j with
 |zero=>simp at a b;subst a b;exact h1
 |succ j=>cases j with
  |zero=>simp at a b;subst a b;exact h2
  |succ j=>simp at a
theorem bE(hx:look l t=some u):yF P (fI l) (aC H0 I) (.tmp t) u:=by
 have h1:fI l t=u:=by unfold fI;rw[hx];rfl
 rw[<-h1]
 exact .tmp t
theorem jv{a:Nat}{ls:List AV}(hd:aM H0 I)(hx:look l a=some (.ptr id 0))(h2:I[k]? =some (id,.box e ls))(hst:∃fs,P.underlying t=some (.struct fs))(hs:(P.info? t).map (·.size)=some ls.length):yF P (fI l) (aC H0 I) (.cell a t) (.agg ls):=
 .cell a t id e ls (by unfold fI;rw[hx];rfl) (hd.at_ h2) (hst.elim λ_ h=>⟨_,h,rfl⟩) hs
end
end
end Go.fT
end
