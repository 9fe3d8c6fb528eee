/- A part of the proof. -/
import Derived.Test.YtonpfomjoiaacaaGreatDoorMw03
set_option maxRecDepth 100000
set_option maxHeartbeats 4000000
set_option linter.unusedSectionVars false
set_option linter.unusedVariables false
set_option linter.unusedSimpArgs false
section
namespace Go.iG
open Go Go.RowKit
section
variable [Rd]
def look:List (Nat×AV)->Nat->Option AV
 |[],_=>none
 |(d,u)::l,t=>if t=d then some u else look l t
def gD(l:List (Nat×AV)):Sl:=λt=>(look l t).getD .any
def aW(l:List (Nat×AV)):Operand->Option AV
 | .tmp t=>look l t
 | .const x=>some (.v x)
 | .global g=>some (.v (.pointer (some ⟨g,0,none⟩)))
 | .func f=>some (.iF f [])
theorem Ec(l:List (Nat×AV))(d:Nat)(u:AV):upd (gD l) d u=gD ((d,u)::l):=by
 funext t
 unfold upd gD
 simp only[look]
 split<;>simp
def aD(H0:Hp):List (Nat×Ob)->Hp
 |[]=>H0
 |(i,ob)::r=>set (aD H0 r) i (some ob)
inductive aP (H0:Hp):List (Nat×Ob)->Prop
 |nil:aP H0 []
 |cons {i:Nat} {ob:Ob} {r:List (Nat×Ob)} (h:aD H0 r i=none) (hr:aP H0 r):aP H0 ((i,ob)::r)
theorem pO{H0:Hp}:∀{r:List (Nat×Ob)} {i:Nat},aD H0 r i=none->H0 i=none/\∀p∈r,p.1≠i
 |[],i,h=>⟨h,by simp⟩
 |(j,ob)::r,i,h=>by
  unfold aD at h
  by_cases hij:i=j
  ·subst hij;simp at h
  ·rw[dZ _ _ hij] at h
   obtain⟨h1,h2⟩:=pO h
   refine⟨h1,λp hp=>?_⟩
   rcases List.mem_cons.1 hp with rfl|hp
   ·exact Ne.symm hij
   ·exact h2 p hp
theorem um{H0:Hp}:∀{r:List (Nat×Ob)} {i:Nat},H0 i=none->(∀p∈r,p.1≠i)->aD H0 r i=none
 |[],i,h,_=>h
 |(j,ob)::r,i,h,h2=>by
  unfold aD
  rw[dZ _ _ (Ne.symm (h2 (j,ob) (by simp)))]
  exact um h (λp hp=>h2 p (by simp[hp]))
theorem aP.at_{H0:Hp}:∀{r:List (Nat×Ob)} {k i:Nat} {ob:Ob},aP H0 r->r[k]? =some (i,ob)->aD H0 r i=some ob
 |[],k,i,ob,_,h=>by simp at h
 |(j,o)::r,0,i,ob,_,h=>by simp at h;obtain⟨rfl,rfl⟩:=h;simp[aD]
 |(j,o)::r,k+1,i,ob,.cons h1 h2,h=>by
  have h3:=aP.at_ h2 (k:=k) (by simpa using h)
  have:i≠j:=by rintro rfl;rw[h3] at h1;cases h1
  unfold aD
  rw[dZ _ _ this]
  exact h3
theorem aP.base{H0:Hp}:∀{r:List (Nat×Ob)} {k i:Nat} {ob:Ob},aP H0 r->r[k]? =some (i,ob)->H0 i=none
 |[],k,i,ob,_,h=>by simp at h
 |(j,o)::r,0,i,ob,.cons h1 h2,h=>by simp at h;obtain⟨rfl,rfl⟩:=h;exact(pO h1).1
 |(j,o)::r,k+1,i,ob,.cons h1 h2,h=>aP.base h2 (k:=k) (by simpa using h)
theorem aP.ku{H0:Hp}:∀{r:List (Nat×Ob)} {k i:Nat} {ob:Ob} (yT:Ob),aP H0 r->r[k]? =some (i,ob)->set (aD H0 r) i (some yT)=aD H0 (r.set k (i,yT))/\aP H0 (r.set k (i,yT))
 |[],k,i,ob,_,_,h=>by simp at h
 |(j,o)::r,0,i,ob,yT,.cons h1 h2,h=>by
  simp at h;obtain⟨rfl,rfl⟩:=h
  refine⟨?_,.cons h1 h2⟩
  funext t
  simp only[List.set_cons_zero,aD,iG.set]
  split<;>rfl
 |(j,o)::r,k+1,i,ob,yT,.cons h1 h2,h=>by
  have hk:r[k]? =some (i,ob):=by simpa using h
  have h3:=aP.at_ h2 hk
  have hij:i≠j:=by rintro rfl;rw[h3] at h1;cases h1
  obtain⟨h4,h5⟩:=aP.ku yT h2 hk
  refine⟨?_,?_⟩
  ·rw[List.set_cons_succ]
   show _=set (aD H0 (r.set k (i,yT))) j (some o)
   rw[<-h4]
   funext t
   simp only[aD,iG.set]
   split
   ·rename_i ht;subst ht;rw[if_neg hij]
   ·rfl
  ·rw[List.set_cons_succ]
   refine .cons ?_ h5
   rw[<-h4,dZ _ _ (Ne.symm hij)]
   exact h1
theorem aP.kill{H0:Hp}:∀{r:List (Nat×Ob)} {k i:Nat} {ob:Ob},aP H0 r->r[k]? =some (i,ob)->set (aD H0 r) i none=aD H0 (r.eraseIdx k)/\aP H0 (r.eraseIdx k)
 |[],k,i,ob,_,h=>by simp at h
 |(j,o)::r,0,i,ob,.cons h1 h2,h=>by
  simp at h;obtain⟨rfl,rfl⟩:=h
  refine⟨?_,by simpa using h2⟩
  funext t
  simp only[List.eraseIdx_cons_zero,aD,iG.set]
  split
  ·rename_i ht;subst ht;exact h1.symm
  ·rfl
 |(j,o)::r,k+1,i,ob,.cons h1 h2,h=>by
  have hk:r[k]? =some (i,ob):=by simpa using h
  have h3:=aP.at_ h2 hk
  have hij:i≠j:=by rintro rfl;rw[h3] at h1;cases h1
  obtain⟨h4,h5⟩:=aP.kill h2 hk
  refine⟨?_,?_⟩
  ·rw[List.eraseIdx_cons_succ]
   show _=set (aD H0 (r.eraseIdx k)) j (some o)
   rw[<-h4]
   funext t
   simp only[aD,iG.set]
   split
   ·rename_i ht;subst ht;rw[if_neg hij]
   ·rfl
  ·rw[List.eraseIdx_cons_succ]
   refine .cons ?_ h5
   rw[<-h4,dZ _ _ (Ne.symm hij)]
   exact h1
theorem gP{H0:Hp}{r r':List (Nat×Ob)}(hd:aP H0 r)(hd':aP H0 r')(h:∀p∈r',p∈r):Sub (aD H0 r') (aD H0 r):=by
 intro i ob hi
 have key:∀{ob:Ob} {r':List (Nat×Ob)},aP H0 r'->aD H0 r' i=some ob->(i,ob)∈r'\/(H0 i=some ob):=by
  intro ob r' hd'
  induction hd' with
  |nil=>exactλh=> .inr h
  | @cons j o r h1 h2 ih=>
    intro h
    unfold aD at h
    by_cases hij:i=j
    ·subst hij;rw[set_self] at h;cases h;exact .inl (by simp)
    ·rw[dZ _ _ hij] at h
     rcases ih h with h|h
     ·exact .inl (by simp[h])
     ·exact .inr h
 rcases key hd' hi with h1|h1
 ·obtain⟨k,hk⟩:=List.getElem?_of_mem (h _ h1)
  exact hd.at_ hk
 ·cases he:aD H0 r i with
  |none=>rw[(pO he).1] at h1;cases h1
  |some ob2=>
   rcases key hd he with h2|h2
   ·obtain⟨k,hk⟩:=List.getElem?_of_mem h2
    rw[hd.base hk] at h1;cases h1
   ·rw[h1] at h2;exact h2.symm
theorem aP.sub{H0:Hp}{r r':List (Nat×Ob)}(hd:aP H0 r)(h:r'.Sublist r):aP H0 r':=by
 induction h with
 |slnil=>exact .nil
 |cons a h ih=>cases hd with|cons h1 h2=>exact ih h2
 | @cons_cons l1 l2 a h ih=>
   obtain⟨i,ob⟩:=a
   cases hd with
   |cons h1 h2=>
    refine .cons ?_ (ih h2)
    obtain⟨a1,a2⟩:=pO h1
    exact um a1 (λp hp=>a2 p (h.subset hp))
section
variable {P:Program} {n:Nat} {ops:Array Oper} {Q:sN->Sl->Hp->Prop} {H0:Hp} {l:List (Nat×AV)} {I:List (Nat×Ob)} {rest:List Oper} {o:Oper} {c:Code}
def US(P:Program)(n:Nat)(ops:Array Oper)(Q:sN->Sl->Hp->Prop)(H0:Hp)(rest:List Oper)(l:List (Nat×AV))(I:List (Nat×Ob)):Prop:=
 aP H0 I->vV P n ops Q rest (gD l) (aD H0 I)
def UW(P:Program)(n:Nat)(Q:sN->Sl->Hp->Prop)(H0:Hp)(c:Code)(l:List (Nat×AV))(I:List (Nat×Ob)):Prop:=
 aP H0 I->AW P n c Q (gD l) (aD H0 I)
def UQ(Q:sN->Sl->Hp->Prop)(H0:Hp)(e:sN)(l:List (Nat×AV))(I:List (Nat×Ob)):Prop:=aP H0 I->Q e (gD l) (aD H0 I)
theorem UW.seq{x y:Code}(h:UW P n (ng (AW P n y Q) Q) H0 x l I):UW P n Q H0 (.seq x y) l I:=λhd=>AW.seq (h hd)
theorem UW.region{id:Nat}{ol:List Oper}(h:US P n ol.toArray Q H0 ol l I):UW P n Q H0 (.region id ol.toArray false) l I:=λhd=>AW.O5 (h hd)
theorem UW.block{id:Nat}(h:UW P n (mo id Q) H0 c l I):UW P n Q H0 (.block id c) l I:=λhd=>AW.block (h hd)
theorem UW.skip(h:UQ Q H0 .normal l I):UW P n Q H0 .skip l I:=λhd=>AW.skip (h hd)
theorem UW.exit{id:Nat}(h:UQ Q H0 (.exit id) l I):UW P n Q H0 (.exit id) l I:=λhd=>AW.exit (h hd)
theorem UW.ret(h:UQ Q H0 .ret l I):UW P n Q H0 .ret l I:=λhd=>AW.ret (h hd)
theorem US.nil(h:UQ Q H0 .normal l I):US P n ops Q H0 [] l I:=λhd=>vV.nil (h hd)
theorem UQ.then{y:Code}(h:UW P n Q H0 y l I):UQ (ng (AW P n y Q) Q) H0 .normal l I:=h
theorem UQ.pass{N:Sl->Hp->Prop}{id:Nat}(h:UQ Q H0 (.exit id) l I):UQ (ng N Q) H0 (.exit id) l I:=h
theorem UQ.ax{N:Sl->Hp->Prop}(h:UQ Q H0 .ret l I):UQ (ng N Q) H0 .ret l I:=h
theorem UQ.here{id:Nat}(h:UQ Q H0 .normal l I):UQ (mo id Q) H0 (.exit id) l I:=λhd=>by
 simp only[mo,if_true];exact h hd
theorem UQ.out{id id':Nat}(hne:id'≠id)(h:UQ Q H0 (.exit id') l I):UQ (mo id Q) H0 (.exit id') l I:=λhd=>by
 simp only[mo,if_neg hne];exact h hd
theorem UQ.aB{id:Nat}(h:UQ Q H0 .normal l I):UQ (mo id Q) H0 .normal l I:=h
theorem UQ.aI{id:Nat}(h:UQ Q H0 .ret l I):UQ (mo id Q) H0 .ret l I:=h
theorem aG{x:Operand}{u:AV}(h:aW l x=some u):ev (gD l) x=u:=by
 cases x with
 |tmp t=>
  have h':look l t=some u:=h
  show(look l t).getD .any=u
  rw[h'];rfl
 |const x=>cases h;rfl
 |global g=>cases h;rfl
 |func f=>cases h;rfl
theorem US.step{d:Nat}(hd:o.dst=some d)(hn:d<n)(h:aP H0 I->Does P n ops o (gD l) (aD H0 I) (λu H'=>∃aM,H'=aD H0 aM/\aP H0 aM/\US P n ops Q H0 rest ((d,u)::l) aM)):US P n ops Q H0 (o::rest) l I:=by
 intro ay
 refine vV.cons ((h ay).mono ?_)
 rintro u H' ⟨aM,rfl,h1,h2⟩
 have:=h2 h1
 rw[<-Ec] at this
 simpa[EB,hd,hn] using this
theorem US.step0(hd:o.dst=none)(h:aP H0 I->Does P n ops o (gD l) (aD H0 I) (λ_ H'=>∃aM,H'=aD H0 aM/\aP H0 aM/\US P n ops Q H0 rest l aM)):US P n ops Q H0 (o::rest) l I:=by
 intro ay
 refine vV.cons ((h ay).mono ?_)
 rintro u H' ⟨aM,rfl,h1,h2⟩
 simpa[EB,hd] using h2 h1
variable {d:Nat} {x y:Operand} {u:AV} {t e sz b:Nat} {id off k:Nat} {ob:Ob} {cells:List AV} {rows:List (List AV)}
theorem US.move(hd:o.dst=some d)(hn:d<n)(hg:o.guard=none)(ho:o.op=.move x)(hx:aW l x=some u)(hk:US P n ops Q H0 rest ((d,u)::l) I):US P n ops Q H0 (o::rest) l I:=
 US.step hd hn λay=>Does.move hg ho ⟨I,rfl,ay,by rw[aG hx];exact hk⟩
theorem US.assign(hd:o.dst=some d)(hn:d<n)(hg:o.guard=none)(ho:o.op=.assign x)(hx:aW l x=some u)(hk:US P n ops Q H0 rest ((d,u)::l) I):US P n ops Q H0 (o::rest) l I:=
 US.step hd hn λay=>Does.assign hg ho ⟨I,rfl,ay,by rw[aG hx];exact hk⟩
def qf:AV->Option (List AV)
 | .agg l=>some l
 |u=>some [u]
theorem fU{u:AV}{cs:List AV}(h:qf u=some cs):flat u=cs:=by
 cases u<;>simp_all[qf,flat]
theorem US.box(hd:o.dst=some d)(hn:d<n)(hg:o.guard=none)(ho:o.op=.box e x)(hx:aW l x=some u)(hf:qf u=some cells)(hc:cells.all aT=true)
 (hk:∀id,US P n ops Q H0 rest ((d,.ptr id 0)::l) ((id,.box e cells)::I)):US P n ops Q H0 (o::rest) l I:=
 US.step hd hn λay=>Does.box hg ho (by rw[aG hx,fU hf];exact hc) λid hid=>⟨(id,.box e cells)::I,by rw[aG hx,fU hf];rfl,.cons hid ay,hk id⟩
theorem US.alloc{z:Value}{zs:List AV}(hd:o.dst=some d)(hn:d<n)(hg:o.guard=none)(ho:o.op=.alloc e)(hz:(P.info? e).map (·.zero)=some (some z))(hc:z.cells.toList.all (·.oneCell')=true)(hzs:z.cells.toList.map AV.v=zs)
 (hk:∀id,US P n ops Q H0 rest ((d,.ptr id 0)::l) ((id,.box e zs)::I)):US P n ops Q H0 (o::rest) l I:=
 US.step hd hn λay=>Does.alloc hg ho hz hc λid hid=>⟨(id,.box e zs)::I,by rw[hzs];rfl,.cons hid ay,hk id⟩
theorem US.wB{ls rs:List AV}(hd:o.dst=some d)(hn:d<n)(hg:o.guard=none)(ho:o.op=.load t x)(hx:aW l x=some (.ptr id off))(h2:I[k]? =some (id,ob))(ht:eQ P t=some (true,sz))(hcs:cellsOf ob=ls)(hr:(ls.drop off).take sz=rs)(hs:off+sz<=ls.length)
 (hk:US P n ops Q H0 rest ((d,.agg rs)::l) I) (hm:IA ob=true:=by rfl):US P n ops Q H0 (o::rest) l I:=
 US.step hd hn λay=>Does.wB hg ho (aG hx) (ay.at_ h2) ht (by rw[hcs];exact hs) ⟨I,rfl,ay,by rw[hcs,hr];exact hk⟩ (hm:=hm)
theorem US.pI{ls:List AV}(hd:o.dst=some d)(hn:d<n)(hg:o.guard=none)(ho:o.op=.load t x)(hx:aW l x=some (.ptr id off))(h2:I[k]? =some (id,ob))(ht:eQ P t=some (false,sz))(hcs:cellsOf ob=ls)(hs:ls[off]? =some u)
 (hk:US P n ops Q H0 rest ((d,u)::l) I) (hm:IA ob=true:=by rfl):US P n ops Q H0 (o::rest) l I:=
 US.step hd hn λay=>Does.pI hg ho (aG hx) (ay.at_ h2) ht (by rw[hcs];exact hs) ⟨I,rfl,ay,hk⟩ (hm:=hm)
theorem US.gp(hd:o.dst=some d)(hn:d<n)(hg:o.guard=none)(ho:o.op=.load t x)(hx:aW l x=some (.rp cells))(ht:eQ P t=some (true,sz))(hl:cells.length=sz)
 (hk:US P n ops Q H0 rest ((d,.agg cells)::l) I):US P n ops Q H0 (o::rest) l I:=
 US.step hd hn λay=>Does.gp hg ho (aG hx) (by rw[hl];exact ht) ⟨I,rfl,ay,hk⟩
theorem US.bI{r:List AV}(hd:o.dst=some d)(hn:d<n)(hg:o.guard=none)(ho:o.op=.load t x)(hx:aW l x=some (.rp (u::r)))(ht:eQ P t=some (false,sz))
 (hk:US P n ops Q H0 rest ((d,u)::l) I):US P n ops Q H0 (o::rest) l I:=
 US.step hd hn λay=>Does.bI hg ho (aG hx) ht ⟨I,rfl,ay,hk⟩
theorem US.pJ{ls ls':List AV}{bb:Bool}(hd:o.dst=none)(hg:o.guard=none)(ho:o.op=.store t x y)(hx:aW l x=some (.ptr id off))(h2:I[k]? =some (id,.box e ls))(hy:aW l y=some u)(hf:qf u=some cells)(hc:cells.all aT=true)
 (ht:eQ P t=some (bb,sz)) (hl:cells.length=sz) (hs:off+sz<=ls.length) (hr:gz ls off cells=ls')
 (hk:US P n ops Q H0 rest l (I.set k (id,.box e ls'))):US P n ops Q H0 (o::rest) l I:=
 US.step0 hd λay=>Does.pJ hg ho (aG hx) (ay.at_ h2) (by rw[aG hy,fU hf];exact hc) (by rw[aG hy,fU hf,hl];exact ht) (by rw[aG hy,fU hf,hl];exact hs)
  ⟨_,by rw[aG hy,fU hf,hr];exact(ay.ku _ h2).1,(ay.ku _ h2).2,hk⟩
theorem US.fieldAddr{f off':Nat}(hd:o.dst=some d)(hn:d<n)(hg:o.guard=none)(ho:o.op=.fieldAddr t x f)(hx:aW l x=some (.ptr id off))(h:dP P t f=some off')
 (hk:US P n ops Q H0 rest ((d,.ptr id (off+off'))::l) I):US P n ops Q H0 (o::rest) l I:=
 US.step hd hn λay=>Does.fieldAddr hg ho (aG hx) h ⟨I,rfl,ay,hk⟩
theorem US.bM{ki:IntKind}{i:Int}{cs:List AV}(hd:o.dst=some d)(hn:d<n)(hg:o.guard=none)(ho:o.op=.indexAddr t x y)(ht:lu P t=some (e,sz,b))(hx:aW l x=some (.sl rows))(hy:aW l y=some (.v (.int ki i)))(h0:0<=i)(h1:rows[i.toNat]? =some cs)(hs:cs.length=sz)
 (hk:US P n ops Q H0 rest ((d,.rp cs)::l) I):US P n ops Q H0 (o::rest) l I:=
 US.step hd hn λay=>Does.bM hg ho ht (aG hx) (aG hy) h0 h1 hs ⟨I,rfl,ay,hk⟩
theorem US.bD{ki:IntKind}{i c:Int}{str:ByteArray}(hd:o.dst=some d)(hn:d<n)(hg:o.guard=none)(ho:o.op=.index t x y)(ht:P.underlying t=some .string)(hx:aW l x=some (.v (.string str)))(hy:aW l y=some (.v (.int ki i)))(h0:0<=i)(h1:i<str.size)(hcc:c=((str[i.toNat]'(by omega)).toNat:Int))
 (hk:US P n ops Q H0 rest ((d,.v (.int .u8 c))::l) I):US P n ops Q H0 (o::rest) l I:=
 US.step hd hn λay=>Does.bD hg ho ht (aG hx) (aG hy) h0 h1 hcc ⟨I,rfl,ay,hk⟩
inductive mD (l:List (Nat×AV)) (len:Nat):Option Operand->Option Operand->Nat->Nat->Prop
 |all:mD l len none none 0 len
 |lo {x:Operand} {k:IntKind} {a:Nat} (h:aW l x=some (.v (.int k (a:Int)))):mD l len (some x) none a len
 |hi {x:Operand} {k:IntKind} {a:Nat} (h:aW l x=some (.v (.int k (a:Int)))):mD l len none (some x) 0 a
 |both {x y:Operand} {k k':IntKind} {a a':Nat} (h:aW l x=some (.v (.int k (a:Int)))) (hh:aW l y=some (.v (.int k' (a':Int)))):mD l len (some x) (some y) a a'
theorem mD.to{len a a':Nat}{lo hi:Option Operand}(h:mD l len lo hi a a'):DV (gD l) len lo hi a a':=by
 cases h with
 |all=>exact .all
 |lo h=>exact .lo _ _ _ (aG h)
 |hi h=>exact .hi _ _ _ (aG h)
 |both h hh=>exact .both _ _ _ _ _ _ (aG h) (aG hh)
theorem US.pK{lo hi:Option Operand}{a a':Nat}{str:ByteArray}(hd:o.dst=some d)(hn:d<n)(hg:o.guard=none)(ho:o.op=.slice t x lo hi none)(ht:P.underlying t=some .string)(hx:aW l x=some (.v (.string str)))
 (hb:mD l str.size lo hi a a') (h1:a<=a') (h2:a'<=str.size) (hk:US P n ops Q H0 rest ((d,.v (.string (str.extract a a')))::l) I):US P n ops Q H0 (o::rest) l I:=
 US.step hd hn λay=>Does.pK hg ho ht (aG hx) hb.to h1 h2 ⟨I,rfl,ay,hk⟩
theorem US.gq(hd:o.dst=some d)(hn:d<n)(hg:o.guard=none)(ho:o.op=.call {callee:=.builtin .len,args:= #[x],argTypes:= #[t]})(ht:lu P t=some (e,sz,b))(hx:aW l x=some (.sl rows))
 (hk:US P n ops Q H0 rest ((d,.v (.int .i64 (rows.length:Int)))::l) I):US P n ops Q H0 (o::rest) l I:=
 US.step hd hn λay=>Does.gq hg ho ht (aG hx) ⟨I,rfl,ay,hk⟩
theorem US.iQ{len:Nat}(hd:o.dst=some d)(hn:d<n)(hg:o.guard=none)(ho:o.op=.call {callee:=.builtin .len,args:= #[x],argTypes:= #[t]})(ht:lu P t=some (e,sz,b))(hx:aW l x=some (.own id off len sz))
 (hk:US P n ops Q H0 rest ((d,.v (.int .i64 (len:Int)))::l) I):US P n ops Q H0 (o::rest) l I:=
 US.step hd hn λay=>Does.iQ hg ho ht (aG hx) ⟨I,rfl,ay,hk⟩
theorem US.rE{str:ByteArray}(hd:o.dst=some d)(hn:d<n)(hg:o.guard=none)(ho:o.op=.call {callee:=.builtin .len,args:= #[x],argTypes:= #[t]})(ht:P.underlying t=some .string)(hx:aW l x=some (.v (.string str)))
 (hk:US P n ops Q H0 rest ((d,.v (.int .i64 (str.size:Int)))::l) I):US P n ops Q H0 (o::rest) l I:=
 US.step hd hn λay=>Does.rE hg ho ht (aG hx) ⟨I,rfl,ay,hk⟩
theorem US.aA{op:BinOp}{t2:Nat}{ki:IntKind}{a c:Int}{r:Value}(hd:o.dst=some d)(hn:d<n)(hg:o.guard=none)(ho:o.op=.binOp op t x y t2)(hx:aW l x=some (.v (.int ki a)))(hy:aW l y=some (.v (.int ki c)))(h:eT op ki a c=some r)
 (hk:US P n ops Q H0 rest ((d,.v r)::l) I):US P n ops Q H0 (o::rest) l I:=
 US.step hd hn λay=>Does.aA hg ho (aG hx) (aG hy) h ⟨I,rfl,ay,hk⟩
theorem US.xM{t2:Nat}{ki kj:IntKind}{a c r:Int}(hd:o.dst=some d)(hn:d<n)(hg:o.guard=none)(ho:o.op=.binOp .shr t x y t2)(hx:aW l x=some (.v (.int ki a)))(hy:aW l y=some (.v (.int kj c)))(hb:0<=c)(hr:a.fdiv (2^min c.toNat ki.bits)=r)
 (hk:US P n ops Q H0 rest ((d,.v (.int ki r))::l) I):US P n ops Q H0 (o::rest) l I:=
 US.step hd hn λay=>Does.xM hg ho (aG hx) (aG hy) hb ⟨I,rfl,ay,by rw[hr];exact hk⟩
theorem US.jl{op:BinOp}{t2:Nat}{a c:ByteArray}{r:Bool}(hd:o.dst=some d)(hn:d<n)(hg:o.guard=none)(ho:o.op=.binOp op t x y t2)(hx:aW l x=some (.v (.string a)))(hy:aW l y=some (.v (.string c)))(h:fe op a c=some r)
 (hk:US P n ops Q H0 rest ((d,.v (.bool r))::l) I):US P n ops Q H0 (o::rest) l I:=
 US.step hd hn λay=>Does.jl hg ho (aG hx) (aG hy) h ⟨I,rfl,ay,hk⟩
theorem US.Eb{t2:Nat}(hd:o.dst=some d)(hn:d<n)(hg:o.guard=none)(ho:o.op=.binOp .eql t x (.const (.slice none 0 0)) t2)(ht:P.underlying t=some (.slice e))(hx:aW l x=some (.sl rows))
 (hk:∀c:Bool,(c=true->rows=[])->US P n ops Q H0 rest ((d,.v (.bool c))::l) I):US P n ops Q H0 (o::rest) l I:=
 US.step hd hn λay=>Does.Eb (m:=rows.length) hg ho ht U (λρ w z hz=>by
  rw[aG hx] at hz
  cases hz with
  |nil=>exact⟨none,0,rfl,λ_=>rfl⟩
  |sl _ a cap sz vals h1 h2 h3 h4 h5 h6=>exact⟨_,_,rfl,λh=>by cases h⟩) λc hc=>⟨I,rfl,ay,hk c (λh=>List.eq_nil_of_length_eq_zero (hc h))⟩
theorem US.not{a:Bool}(hd:o.dst=some d)(hn:d<n)(hg:o.guard=none)(ho:o.op=.unOp .not t x)(hx:aW l x=some (.v (.bool a)))
 (hk:US P n ops Q H0 rest ((d,.v (.bool (!a)))::l) I):US P n ops Q H0 (o::rest) l I:=
 US.step hd hn λay=>Does.not hg ho (aG hx) ⟨I,rfl,ay,hk⟩
theorem US.Am{s2:Nat}{ki kj:IntKind}{a:Int}(hd:o.dst=some d)(hn:d<n)(hg:o.guard=none)(ho:o.op=.convert t s2 x)(hs:(P.underlying t).isSome=true)(ht:P.underlying s2=some (.int kj))(hx:aW l x=some (.v (.int ki a)))
 (hk:US P n ops Q H0 rest ((d,.v (.int kj (kj.wrap a)))::l) I):US P n ops Q H0 (o::rest) l I:=
 US.step hd hn λay=>Does.Am hg ho hs ht (aG hx) ⟨I,rfl,ay,hk⟩
theorem US.min2{at_:Array TypeId}{ki kj:IntKind}{a c:Int}(hd:o.dst=some d)(hn:d<n)(hg:o.guard=none)(ho:o.op=.call {callee:=.builtin .min,args:= #[x,y],argTypes:=at_})(hx:aW l x=some (.v (.int ki a)))(hy:aW l y=some (.v (.int kj c)))
 (hk:US P n ops Q H0 rest ((d,.v (.int ki (if c<a then c else a)))::l) I):US P n ops Q H0 (o::rest) l I:=
 US.step hd hn λay=>Does.min2 hg ho (aG hx) (aG hy) ⟨I,rfl,ay,hk⟩
theorem US.max2{at_:Array TypeId}{ki kj:IntKind}{a c:Int}(hd:o.dst=some d)(hn:d<n)(hg:o.guard=none)(ho:o.op=.call {callee:=.builtin .max,args:= #[x,y],argTypes:=at_})(hx:aW l x=some (.v (.int ki a)))(hy:aW l y=some (.v (.int kj c)))
 (hk:US P n ops Q H0 rest ((d,.v (.int ki (if c>a then c else a)))::l) I):US P n ops Q H0 (o::rest) l I:=
 US.step hd hn λay=>Does.max2 hg ho (aG hx) (aG hy) ⟨I,rfl,ay,hk⟩
inductive uo (I:List (Nat×Ob)) (sz:Nat):AV->List (List AV)->Prop
 |sl {rows:List (List AV)} (h:∀cs∈rows,cs.length=sz):uo I sz (.sl rows) rows
 |nil:uo I sz (.v (.slice none 0 0)) []
 |own {k id off len e:Nat} {jm rs:List (List AV)} (h:I[k]? =some (id,.row e sz jm)) (hle:off+len<=jm.length) (hr:(jm.drop off).take len=rs):uo I sz (.own id off len sz) rs
theorem uo.to(hd:aP H0 I){u:AV}{rs:List (List AV)}(h:uo I sz u rs):Src (aD H0 I) sz u rs:=by
 cases h with
 |sl h=>exact .sl _ h
 |nil=>exact .nil
 |own h hle hr=>subst hr;exact .own _ _ _ _ _ (hd.at_ h) hle
theorem US.iI{s:Operand}{len:Nat}{news rs:List (List AV)}(hd:o.dst=some d)(hn:d<n)(hg:o.guard=none)(ho:o.op=.call {callee:=.builtin .append,args:= #[s,x],argTypes:= #[t,t]})(ht:kg P t e sz b)
 (hs:aW l s=some (.own id 0 len sz)) (h2:I[k]? =some (id,.row e sz rows)) (hle:len<=rows.length) (hx:aW l x=some u) (hsrc:uo I sz u news) (hb:(len+news.length)*b<=140737488355328) (hr:rows.take len++news=rs)
 (hk:∀id',US P n ops Q H0 rest ((d,.own id' 0 (len+news.length) sz)::l) ((id',.row e sz rs)::I.eraseIdx k)):US P n ops Q H0 (o::rest) l I:=
 US.step hd hn λay=>by
  have qg:=ay.kill h2
  refine Does.iI hg ho ht (aG hs) (ay.at_ h2) hle (by rw[aG hx];exact hsrc.to ay) hb λid' hid=>⟨(id',.row e sz rs)::I.eraseIdx k,?_,?_,hk id'⟩
  ·rw[qg.1,hr];rfl
  ·refine .cons ?_ qg.2
   rw[<-qg.1]
   by_cases h:id'=id
   ·subst h;simp
   ·rw[dZ _ _ h];exact hid
def iM(l:List (Nat×AV)):List Operand->Option (List AV)
 |[]=>some []
 |x::r=>match aW l x,iM l r with
  |some u,some us=>some (u::us)
  |_,_=>none
theorem j4:∀{xs:List Operand} {us:List AV},iM l xs=some us->xs.map (ev (gD l))=us
 |[],us,h=>by cases h;rfl
 |x::r,us,h=>by
  unfold iM at h
  split at h
  ·rename_i u ni h1 h2
   cases h
   rw[List.map_cons,aG h1,j4 h2]
  ·cases h
theorem US.call{f:Nat}{cc:Operand}{args:Array Operand}{at_:Array TypeId}{df us:List AV}{K:AV->Hp->Prop}(hd:o.dst=some d)(hn:d<n)(hg:o.guard=none)(ho:o.op=.call {callee:=.value cc,args:=args,argTypes:=at_})(hc:aW l cc=some (.iF f df))(ha:iM l args.toList=some us)
 (h:aP H0 I->au P f (us++df) (aD H0 I) K) (hk:∀u H',K u H'->∃aM,H'=aD H0 aM/\(aP H0 I->aP H0 aM)/\US P n ops Q H0 rest ((d,u)::l) aM):US P n ops Q H0 (o::rest) l I:=
 US.step hd hn λay=>Does.call hg ho (aG hc) (by
  rw[j4 ha]
  exact(h ay).mono λu H' hK=>by
   obtain⟨aM,e1,e2,e3⟩:=hk u H' hK
   exact⟨aM,e1,e2 ay,e3⟩)
theorem US.dL{f:Nat}{cc:Operand}{args:Array Operand}{at_:Array TypeId}{df us:List AV}{r:AV}(hd:o.dst=some d)(hn:d<n)(hg:o.guard=none)(ho:o.op=.call {callee:=.value cc,args:=args,argTypes:=at_})(hc:aW l cc=some (.iF f df))(ha:iM l args.toList=some us)
 (h:aP H0 I->au P f (us++df) (aD H0 I) (λu H'=>u=r/\H'=aD H0 I)) (hk:US P n ops Q H0 rest ((d,r)::l) I):US P n ops Q H0 (o::rest) l I:=
 US.call hd hn hg ho hc ha h λu H' ⟨h1,h2⟩=>⟨I,h2,λx=>x,by rw[h1];exact hk⟩
theorem US.mE{f:Nat}{cc:Operand}{args:Array Operand}{at_:Array TypeId}{df us:List AV}{R:AV->List (Nat×Ob)->Prop}(hd:o.dst=some d)(hn:d<n)(hg:o.guard=none)(ho:o.op=.call {callee:=.value cc,args:=args,argTypes:=at_})(hc:aW l cc=some (.iF f df))(ha:iM l args.toList=some us)
 (h:aP H0 I->au P f (us++df) (aD H0 I) (λu H'=>∃news,aP (aD H0 I) news/\H'=aD (aD H0 I) news/\R u news)) (hk:∀u news,R u news->US P n ops Q H0 rest ((d,u)::l) (news++I)):US P n ops Q H0 (o::rest) l I:=by
 have hap:∀news:List (Nat×Ob),aD (aD H0 I) news=aD H0 (news++I):=by
  intro news
  induction news with
  |nil=>rfl
  |cons p r ih=>obtain⟨i,ob⟩:=p;show set _ _ _=set _ _ _;rw[ih];rfl
 have hdi:aP H0 I->∀news:List (Nat×Ob),aP (aD H0 I) news->aP H0 (news++I):=by
  intro ay news hnew
  induction hnew with
  |nil=>exact ay
  | @cons i ob r h1 h2 ih=>exact .cons (show aD H0 (r++I) i=none by rw[<-hap];exact h1) ih
 intro hdist0
 exact US.call (Q:=Q) (rest:=rest) hd hn hg ho hc ha h (λu H' ⟨news,h1,h2,h3⟩=>⟨news++I,by rw[h2,hap],λay=>hdi ay news h1,hk u news h3⟩) hdist0
theorem US.on{g:Nat×Bool}{dg:Nat}(hg:o.guard=some g)(hdg:(ops[g.1]?).bind (·.dst)=some dg)(hdn:dg<n)(hT:look l dg=some (.v (.bool g.2)))
 (h:US P n ops Q H0 ({o with guard:=none}::rest) l I):US P n ops Q H0 (o::rest) l I:=by
 intro ay E a w hi
 have h1:=h ay E a w hi
 have hw:Region.wanted o (yielded ops a.tmps)=true:=by
  obtain⟨ρ,_,_,h4⟩:=hi.rel
  have h5:=h4 dg
  have h6:gD l dg=.v (.bool g.2):=by unfold gD;rw[hT];rfl
  rw[h6] at h5
  have h7:=aV h5
  have:a.tmps[dg]? =some (.bool g.2):=by
   rw[Array.getD_eq_getD_getElem?,Array.getElem?_eq_getElem (by rw[hi.size];exact hdn)] at h7
   rw[Array.getElem?_eq_getElem (by rw[hi.size];exact hdn)]
   simpa using h7
  simp[Region.wanted,hg,yielded,hdg,this]
 unfold wpListIn at h1⊢
 rw[if_pos hw]
 rw[if_pos (by simp[Region.wanted])] at h1
 exact h1
theorem US.EK{g:Nat×Bool}{dg:Nat}{bb:Bool}(hd:o.dst=some d)(hn:d<n)(hg:o.guard=some g)(hdg:(ops[g.1]?).bind (·.dst)=some dg)(hT:look l dg=some (.v (.bool bb)))(hb:bb=!g.2)
 (hk:US P n ops Q H0 rest ((d,.v undef)::l) I):US P n ops Q H0 (o::rest) l I:=by
 intro ay E a w hi
 have hw:¬Region.wanted o (yielded ops a.tmps)=true:=by
  obtain⟨ρ,_,_,h4⟩:=hi.rel
  have h5:=h4 dg
  have h6:gD l dg=.v (.bool bb):=by unfold gD;rw[hT];rfl
  rw[h6] at h5
  have h7:=aV h5
  have h8:a.tmps[dg]? =none\/a.tmps[dg]? =some (a.tmps.getD dg undef):=by
   rw[Array.getD_eq_getD_getElem?]
   cases h:a.tmps[dg]? <;>simp
  rw[h7] at h8
  rcases h8 with h8|h8<;>cases hgb:g.2<;>simp[Region.wanted,hg,yielded,hdg,h8,hb,hgb]
 unfold wpListIn
 rw[if_neg hw]
 refine⟨λ_ _=>trivial,?_⟩
 obtain⟨ρ,e1,e2,e3⟩:=hi.rel
 have hi2:Inv E n (gD ((d,.v undef)::l)) (aD H0 I) (a.put o.dst undef) w:=by
  refine⟨by simp only[Act.put];split<;>simp[hi.size],by rw[put_defers];exact hi.defers,ρ,e1,e2,?_⟩
  have:=xL (n:=n) hi.size e3 o.dst (eF.v undef)
  rw[hd] at this⊢
  simp only[EB,hn,if_true,Ec] at this
  exact this
 exact hk ay E _ w hi2
theorem UW.cond{cc:Operand}{y1 y2:Code}{bb:Bool}(hc:aW l cc=some (.v (.bool bb)))(ht:bb=true->UW P n Q H0 y1 l I)(hf:bb=false->UW P n Q H0 y2 l I):UW P n Q H0 (.cond cc y1 y2) l I:=
 λhd=>AW.cond bb (aG hc) (λh=>ht h hd) (λh=>hf h hd)
def SF(l:List (Nat×AV)):List (Nat×AV)->Prop
 |[]=>True
 |p::r=>look l p.1=some p.2/\SF l r
theorem SF.look:∀{l':List (Nat×AV)},SF l l'->∀{t:Nat} {u:AV},iG.look l' t=some u->iG.look l t=some u
 |[],_,t,u,h=>by cases h
 |(d,v)::r,⟨h1,h2⟩,t,u,h=>by
  unfold iG.look at h
  split at h
  ·rename_i ht;subst ht;cases h;exact h1
  ·exact SF.look h2 h
theorem xN{l':List (Nat×AV)}{aM:List (Nat×Ob)}(h:SF l l')(hs:Sub (aD H0 aM) (aD H0 I)):∀t,bO (aD H0 I) (gD l t) (aD H0 aM) (gD l' t):=by
 intro t
 unfold gD
 cases h1:iG.look l' t with
 |none=>exact bO.any _ _
 |some u=>rw[h.look h1];exact bO.drop hs u
theorem UW.keep(l':List (Nat×AV))(aM:List (Nat×Ob))(h:SF l l')(ho:aM.Sublist I)(hk:UW P n Q H0 c l' aM):UW P n Q H0 c l I:=λhd=>by
 have hd':=hd.sub ho
 have hs:=gP hd hd' (λp hp=>ho.subset hp)
 exact AW.turn hs (xN h hs) (hk hd')
theorem US.keep(l':List (Nat×AV))(aM:List (Nat×Ob))(h:SF l l')(ho:aM.Sublist I)(hk:US P n ops Q H0 rest l' aM):US P n ops Q H0 rest l I:=λhd=>by
 have hd':=hd.sub ho
 have hs:=gP hd hd' (λp hp=>ho.subset hp)
 exact vV.turn hs (xN h hs) (hk hd')
theorem UW.loop{α:Type}(L:α->List (Nat×AV))(O:α->List (Nat×Ob))(J:α->Prop)(μ:α->Nat)(a0:α)(h0:J a0)(hl:SF l (L a0))(ho:(O a0).Sublist I)
 (round:∀a,J a->UW P n (ng (λT H=>∃a',J a'/\μ a'<μ a/\aP H0 (O a')/\T=gD (L a')/\H=aD H0 (O a')) Q) H0 c (L a) (O a)):UW P n Q H0 (.loop c) l I:=by
 refine UW.keep (L a0) (O a0) hl ho λhd=>?_
 refine AW.loop (λm T H=>∃a,J a/\μ a=m/\aP H0 (O a)/\T=gD (L a)/\H=aD H0 (O a)) (μ a0) ⟨a0,h0,rfl,hd,rfl,rfl⟩ ?_
 rintro m T H ⟨a,hJ,rfl,hd',rfl,rfl⟩
 refine(round a hJ hd').mono ?_
 intro e T' H' hq
 cases e with
 |normal=>obtain⟨a',h1,h2,h3,h4,h5⟩:=hq;exact⟨μ a',h2,a',h1,rfl,h3,h4,h5⟩
 |exit id=>exact hq
 |goto l=>exact hq
 |ret=>exact hq
theorem US.round{α:Type}{L:α->List (Nat×AV)}{O:α->List (Nat×Ob)}{J:α->Prop}{μ:α->Nat}{m:Nat}(a':α)(hJ:J a')(hm:μ a'<m)(hl:SF l (L a'))(ho:(O a').Sublist I):
 US P n ops (ng (λT H=>∃a',J a'/\μ a'<m/\aP H0 (O a')/\T=gD (L a')/\H=aD H0 (O a')) Q) H0 [] l I:=
 US.keep (L a') (O a') hl ho λhd=>vV.nil ⟨a',hJ,hm,hd,rfl,rfl⟩
def IC:List AV->Nat->List (Nat×AV)
 |[],_=>[]
 |u::r,k=>(k,u)::IC r (k+1)
theorem EL:∀(us:List AV) (k t:Nat),k<=t->look (IC us k) t=us[t-k]?
 |[],k,t,_=>by simp[IC,look]
 |u::r,k,t,h=>by
  simp only[IC,look]
  by_cases ht:t=k
  ·subst ht;simp
  ·rw[if_neg ht,EL r (k+1) t (by omega)]
   have:t-k=(t-(k+1))+1:=by omega
   rw[this,List.getElem?_cons_succ]
def UT(P:Program)(fn:Func)(K:AV->Hp->Prop):sN->Sl->Hp->Prop:=λe T' H'=>(match e with| .normal| .ret=>True|_=>False)/\∃u H2,Ry P T' H' fn u/\Sub H2 H'/\K u H2
theorem aF{f:Nat}{us:List AV}{K:AV->Hp->Prop}{fn:Func}(hf:P.funcs[f]? =some fn)(hname:(fn.name== "runtime.NumGoroutine")=false)(hb:fn.body=some c)(hn:us.length+(fn.ntmps-us.length)=n)(hd:aP H0 I)
 (h: @UW rd0 P n (UT P fn K) H0 c (IC us 0) I):au P f us (aD H0 I) K:=by
 refine au.Xt hf hname hb hn ?_
 have:(λt=>us.getD t .any)=gD (IC us 0):=by
  funext t
  unfold gD
  rw[EL us 0 t (Nat.zero_le _)]
  simp[List.getD_eq_getElem?_getD]
 rw[this]
 exact h hd
theorem retN{K:AV->Hp->Prop}{fn:Func}(aM:List (Nat×Ob))(hr:aP H0 I->Ry P (gD l) (aD H0 I) fn u)(ho:aM.Sublist I)(hk:aP H0 aM->K u (aD H0 aM)):UQ (UT P fn K) H0 .normal l I:=λhd=>
 ⟨trivial,u,_,hr hd,gP hd (hd.sub ho) (λ_ hp=>ho.subset hp),hk (hd.sub ho)⟩
theorem bR{K:AV->Hp->Prop}{fn:Func}(aM:List (Nat×Ob))(hr:aP H0 I->Ry P (gD l) (aD H0 I) fn u)(ho:aM.Sublist I)(hk:aP H0 aM->K u (aD H0 aM)):UQ (UT P fn K) H0 .ret l I:=λhd=>
 ⟨trivial,u,_,hr hd,gP hd (hd.sub ho) (λ_ hp=>ho.subset hp),hk (hd.sub ho)⟩
theorem ak{fn:Func}(hf:fn.results= #[.tmp t])(hx:look l t=some u):Ry P (gD l) (aD H0 I) fn u:=by
 refine .inl ⟨_,hf,?_⟩
 have h1:gD l t=u:=by unfold gD;rw[hx];rfl
 rw[<-h1]
 exact .tmp t
theorem MO{fn:Func}(hf:fn.results= #[]):Ry P (gD l) (aD H0 I) fn (.kX []):=by
 refine .inr ⟨[],[],hf,by simp,rfl,rfl,λj r v h=>by simp at h⟩
theorem aX{fn:Func}{a:Nat}{ls:List AV}(hd:aP H0 I)(hf:fn.results= #[.cell a t])(hx:look l a=some (.ptr id 0))(h2:I[k]? =some (id,.box e ls))(hst:∃fs,P.underlying t=some (.struct fs))(hs:(P.info? t).map (·.size)=some ls.length):Ry P (gD l) (aD H0 I) fn (.agg ls):=
 .inl ⟨_,hf,.cell a t id e ls (by unfold gD;rw[hx];rfl) (hd.at_ h2) (hst.elim λ_ h=>⟨_,h,rfl⟩) hs⟩
theorem BV{fn:Func}{a m e2:Nat}{ls:List AV}(hd:aP H0 I)(hf:fn.results= #[.cell a t])(hx:look l a=some (.ptr id 0))(h2:I[k]? =some (id,.box e ls))(hst:P.underlying t=some (.array m e2))(hs:(P.info? t).map (·.size)=some ls.length):Ry P (gD l) (aD H0 I) fn (.agg ls):=
 .inl ⟨_,hf,.cell a t id e ls (by unfold gD;rw[hx];rfl) (hd.at_ h2) ⟨_,hst,rfl⟩ hs⟩
theorem gF{fn:Func}{r1 r2:ResultVar}{u1 u2:AV}(hf:fn.results= #[r1,r2])(h1:Ai P (gD l) (aD H0 I) r1 u1)(h2:Ai P (gD l) (aD H0 I) r2 u2):Ry P (gD l) (aD H0 I) fn (.kX [u1,u2]):=by
 refine .inr ⟨[r1,r2],[u1,u2],hf,by simp,rfl,rfl,λj r v a b=>?_⟩
 cases j with
 |zero=>simp at a b;subst a b;exact h1
 |succ j=>cases j with
  |zero=>simp at a b;subst a b;exact h2
  |succ j=>simp at a
theorem bJ(hx:look l t=some u):Ai P (gD l) (aD H0 I) (.tmp t) u:=by
 have h1:gD l t=u:=by unfold gD;rw[hx];rfl
 rw[<-h1]
 exact .tmp t
theorem jX{a:Nat}{ls:List AV}(hd:aP H0 I)(hx:look l a=some (.ptr id 0))(h2:I[k]? =some (id,.box e ls))(hst:∃fs,P.underlying t=some (.struct fs))(hs:(P.info? t).map (·.size)=some ls.length):Ai P (gD l) (aD H0 I) (.cell a t) (.agg ls):=
 .cell a t id e ls (by unfold gD;rw[hx];rfl) (hd.at_ h2) (hst.elim λ_ h=>⟨_,h,rfl⟩) hs
end
end
section
variable [Rd]
def EM:List AV->Nat->Nat->Option (List AV)
 |_,0,0=>some []
 |x::r,0,n+1=>match EM r 0 n with
  |some r'=>some (x::r')
  |none=>none
 |[],0,_+1=>none
 |_::r,m+1,n=>EM r m n
 |[],_+1,_=>none
theorem Ed:∀{ls:List AV} {off sz:Nat} {rs:List AV},EM ls off sz=some rs->(ls.drop off).take sz=rs/\off+sz<=ls.length
 |ls,0,0,rs,h=>by unfold EM at h;cases h;simp
 |x::r,0,n+1,rs,h=>by
  unfold EM at h
  split at h
  ·rename_i r' h1
   cases h
   have:=Ed h1
   simp only[List.drop_zero] at this
   simp only[List.drop_zero,List.take_succ_cons,this.1,List.length_cons]
   exact⟨trivial,by omega⟩
  ·cases h
 |[],0,_+1,rs,h=>by unfold EM at h;cases h
 |_::r,m+1,n,rs,h=>by
  unfold EM at h
  have:=Ed h
  simp only[List.drop_succ_cons,this.1,List.length_cons]
  exact⟨trivial,by omega⟩
 |[],_+1,_,rs,h=>by unfold EM at h;cases h
def wD:List AV->Nat->List AV->Option (List AV)
 |ls,0,[]=>some ls
 |_::r,0,u::us=>match wD r 0 us with
  |some r'=>some (u::r')
  |none=>none
 |[],0,_::_=>none
 |x::r,m+1,us=>match wD r m us with
  |some r'=>some (x::r')
  |none=>none
 |[],_+1,_=>none
theorem xO{α:Type}(x:α):∀(us r:List α) (m:Nat),gz (x::r) (m+1) us=x::gz r m us
 |[],r,m=>rfl
 |u::us,r,m=>by simp only[gz,List.set_cons_succ];exact xO x us _ _
theorem uq:∀{ls:List AV} {off:Nat} {us rs:List AV},wD ls off us=some rs->gz ls off us=rs/\off+us.length<=ls.length
 |ls,0,[],rs,h=>by unfold wD at h;cases h;simp[gz]
 |x::r,0,u::us,rs,h=>by
  unfold wD at h
  split at h
  ·rename_i r' h1
   cases h
   have:=uq h1
   simp only[gz,List.set_cons_zero,List.length_cons]
   rw[xO,this.1]
   exact⟨rfl,by omega⟩
  ·cases h
 |[],0,_::_,rs,h=>by unfold wD at h;cases h
 |x::r,m+1,us,rs,h=>by
  unfold wD at h
  split at h
  ·rename_i r' h1
   cases h
   have:=uq h1
   rw[xO,this.1,List.length_cons]
   exact⟨rfl,by omega⟩
  ·cases h
 |[],_+1,us,rs,h=>by unfold wD at h;cases h
def mF:List AV->Option (List (List AV))
 |[]=>some []
 |u::r=>match qf u,mF r with
  |some cs,some rs=>some (cs::rs)
  |_,_=>none
theorem ny:∀{us:List AV} {rs:List (List AV)},mF us=some rs->us.map flat=rs
 |[],rs,h=>by cases h;rfl
 |u::r,rs,h=>by
  unfold mF at h
  split at h
  ·rename_i cs rs' h1 h2
   cases h
   rw[List.map_cons,fU h1,ny h2]
  ·cases h
def Ar:List AV->List Nat->List (List AV)->Option (List AV)
 |ls,[],[]=>some ls
 |ls,off::iC,us::r=>match wD ls off us with
  |some ls'=>Ar ls' iC r
  |none=>none
 |_,_,_=>none
theorem EN:∀{ls:List AV} {iC:List Nat} {ky:List (List AV)} {rs:List AV},Ar ls iC ky=some rs->rF ls (iC.zip ky)=rs/\iC.length=ky.length/\∀(j:Nat) off us,iC[j]? =some off->ky[j]? =some us->off+us.length<=ls.length
 |ls,[],[],rs,h=>by cases h;exact⟨rfl,rfl,λj off us h=>by simp at h⟩
 |ls,[],_::_,rs,h=>by cases h
 |ls,_::_,[],rs,h=>by cases h
 |ls,off::iC,us::r,rs,h=>by
  unfold Ar at h
  split at h
  ·rename_i ls' h1
   have h2:=uq h1
   have h3:=EN h
   refine⟨by rw[List.zip_cons_cons];show rF (gz ls off us) _=_;rw[h2.1];exact h3.1,by simp[h3.2.1],λj off' ni h4 h5=>?_⟩
   cases j with
   |zero=>simp at h4 h5;subst h4 h5;exact h2.2
   |succ j=>
    have:=h3.2.2 j off' ni (by simpa using h4) (by simpa using h5)
    rw[<-h2.1,iy] at this
    exact this
  ·cases h
def vals:List Value->Option (List AV)
 |[]=>some []
 |x::r=>match vals r with
  |some rs=>some (.v x::rs)
  |none=>none
theorem rG:∀{zs:List Value} {rs:List AV},vals zs=some rs->zs.map .v=rs
 |[],rs,h=>by cases h;rfl
 |x::r,rs,h=>by
  unfold vals at h
  split at h
  ·rename_i rs' h1;cases h;rw[List.map_cons,rG h1]
  ·cases h
def lv(places:List (Nat×Nat)):List Nat->List Nat->List Nat->Bool
 |[],[],[]=>true
 |i::is,off::iC,s::ss=>places[i]? ==some (off,s)&&lv places is iC ss
 |_,_,_=>false
theorem Au{places:List (Nat×Nat)}:∀{is iC ss:List Nat},lv places is iC ss=true->∀(j:Nat) i off s,is[j]? =some i->iC[j]? =some off->ss[j]? =some s->places[i]? =some (off,s)
 |[],_,_,_,j,i,off,s,h1,_,_=>by simp at h1
 |_::_,[],_,h,_,_,_,_,_,_,_=>by simp[lv] at h
 |_::_,_::_,[],h,_,_,_,_,_,_,_=>by simp[lv] at h
 |i0::is,o0::iC,s0::ss,h,j,i,off,s,h1,h2,h3=>by
  simp only[lv,Bool.and_eq_true,beq_iff_eq] at h
  cases j with
  |zero=>simp at h1 h2 h3;subst h1 h2 h3;exact h.1
  |succ j=>exact Au h.2 j i off s (by simpa using h1) (by simpa using h2) (by simpa using h3)
section
variable {P:Program} {n:Nat} {ops:Array Oper} {Q:sN->Sl->Hp->Prop} {H0:Hp} {l:List (Nat×AV)} {I:List (Nat×Ob)} {rest:List Oper} {o:Oper} {c:Code}
variable {d:Nat} {x y:Operand} {u:AV} {t e sz b:Nat} {id k:Nat} {ob:Ob} {cells:List AV} {rows:List (List AV)}
theorem US.aJ{off:Nat}{ls:List AV}(hd:o.dst=some d)(hn:d<n)(hg:o.guard=none)(ho:o.op=.load t x)(ht:eQ P t=some (false,sz))(hx:aW l x=some (.ptr id off))(h2:I[k]? =some (id,.box e ls))(hr:ls[off]? =some u)
 (hk:US P n ops Q H0 rest ((d,u)::l) I):US P n ops Q H0 (o::rest) l I:=
 US.pI hd hn hg ho hx h2 ht U hr hk
theorem US.gu{off:Nat}{ls ls':List AV}{aM:List (Nat×Ob)}{bb:Bool}(hd:o.dst=none)(hg:o.guard=none)(ho:o.op=.store t x y)(ht:eQ P t=some (bb,sz))(hx:aW l x=some (.ptr id off))(h2:I[k]? =some (id,.box e ls))(hy:aW l y=some u)(hf:qf u=some cells)(hc:cells.all aT=true)
 (hl:cells.length=sz) (hr:wD ls off cells=some ls') (ji:I.set k (id,.box e ls')=aM)
 (hk:US P n ops Q H0 rest l aM):US P n ops Q H0 (o::rest) l I:=
 US.pJ hd hg ho hx h2 hy hf hc ht hl (by rw[<-hl];exact(uq hr).2) (uq hr).1 (by rw[ji];exact hk)
theorem US.alloc'{zs:List Value}{us:List AV}{z:Value}(hd:o.dst=some d)(hn:d<n)(hg:o.guard=none)(ho:o.op=.alloc e)(hz:(P.info? e).map (·.zero)=some (some z))(hzs:z.cells.toList=zs)(hc:zs.all (·.oneCell')=true)(hv:vals zs=some us)
 (hk:∀id,US P n ops Q H0 rest ((d,.ptr id 0)::l) ((id,.box e us)::I)):US P n ops Q H0 (o::rest) l I:=
 US.alloc hd hn hg ho hz (by rw[hzs];exact hc) (by rw[hzs];exact rG hv) hk
theorem US.lit{len:Nat}{parts:Array (Nat×Operand)}{us:List AV}{ky:List (List AV)}(hd:o.dst=some d)(hn:d<n)(hg:o.guard=none)(ho:o.op=.buildSlice t len parts)(ht:kg P t e sz b)(hl:len*sz<=2^24)
 (hp:parts.toList.map (·.1)=List.range len) (ha:iM l (parts.toList.map (·.2))=some us) (hf:mF us=some ky) (hc:∀cs∈ky,cs.all aT=true/\cs.length=sz)
 (hk:∀id,US P n ops Q H0 rest ((d,.own id 0 len sz)::l) ((id,.row e sz ky)::I)):US P n ops Q H0 (o::rest) l I:=
 US.step hd hn λay=>by
  have e1:=j4 ha
  have e2:=ny hf
  have e4:(parts.toList.map λp=>flat (ev (gD l) p.2))=ky:=by rw[<-e2,<-e1,List.map_map,List.map_map];rfl
  refine Does.buildSlice hg ho ht hl hp (λp hp'=>hc _ (by rw[<-e4];exact List.mem_map_of_mem (f:=λp=>flat (ev (gD l) p.2)) hp')) λid hid=>⟨(id,.row e sz ky)::I,by rw[e4];rfl,.cons hid ay,hk id⟩
theorem US.qh{len:Nat}{parts:Array (Nat×Operand)}{us:List AV}{ky:List (List AV)}(hd:o.dst=some d)(hn:d<n)(hg:o.guard=none)(ho:o.op=.buildSlice t len parts)(ht:kg P t e sz b)(hl:len*sz<=2^24)
 (hp:parts.toList.map (·.1)=List.range len) (ha:iM l (parts.toList.map (·.2))=some us) (hf:mF us=some ky) (hc:∀cs∈ky,cs.all aT=true/\cs.length=sz)
 (hk:US P n ops Q H0 rest ((d,.sl ky)::l) I):US P n ops Q H0 (o::rest) l I:=
 US.step hd hn λay=>by
  have e1:=j4 ha
  have e2:=ny hf
  have e4:(parts.toList.map λp=>flat (ev (gD l) p.2))=ky:=by rw[<-e2,<-e1,List.map_map,List.map_map];rfl
  refine Does.yJ hg ho ht hl hp (λp hp'=>hc _ (by rw[<-e4];exact List.mem_map_of_mem (f:=λp=>flat (ev (gD l) p.2)) hp')) ⟨I,rfl,ay,by rw[e4];exact hk⟩
theorem US.add{t2:Nat}{ki:IntKind}{a c r:Int}(hd:o.dst=some d)(hn:d<n)(hg:o.guard=none)(ho:o.op=.binOp .add t x y t2)(hx:aW l x=some (.v (.int ki a)))(hy:aW l y=some (.v (.int ki c)))(hr:ki.wrap (a+c)=r)
 (hk:US P n ops Q H0 rest ((d,.v (.int ki r))::l) I):US P n ops Q H0 (o::rest) l I:=
 US.aA hd hn hg ho hx hy U (by rw[hr];exact hk)
theorem US.mul{t2:Nat}{ki:IntKind}{a c r:Int}(hd:o.dst=some d)(hn:d<n)(hg:o.guard=none)(ho:o.op=.binOp .mul t x y t2)(hx:aW l x=some (.v (.int ki a)))(hy:aW l y=some (.v (.int ki c)))(hr:ki.wrap (a*c)=r)
 (hk:US P n ops Q H0 rest ((d,.v (.int ki r))::l) I):US P n ops Q H0 (o::rest) l I:=
 US.aA hd hn hg ho hx hy U (by rw[hr];exact hk)
theorem US.conv{s2:Nat}{ki kj:IntKind}{a r:Int}(hd:o.dst=some d)(hn:d<n)(hg:o.guard=none)(ho:o.op=.convert t s2 x)(hs:(P.underlying t).isSome=true)(ht:P.underlying s2=some (.int kj))(hx:aW l x=some (.v (.int ki a)))(hr:kj.wrap a=r)
 (hk:US P n ops Q H0 rest ((d,.v (.int kj r))::l) I):US P n ops Q H0 (o::rest) l I:=
 US.Am hd hn hg ho hs ht hx (by rw[hr];exact hk)
theorem Xw{E:UL}{a:Act}{w:World}(hz:0<sz)(e:Nat)(hl:look l d=some (.v (.slice none 0 0)))(hi:Inv E n (gD l) (aD H0 I) a w):
 ∃id,aD H0 I id=none/\Inv E n (gD ((d,.own id 0 0 sz)::l)) (aD H0 ((id,.row e sz [])::I)) a w:=by
 obtain⟨ρ,h1,h2,h3⟩:=hi.rel
 obtain⟨id,ρ',e1,e2,e3,e4,e5⟩:=h1.new (w':=w) (.slice none 0 0) (.row e sz []) (Below.refl _ _) (λk hk=>by cases hk) (λρ' H' e'=>⟨hz,[],⟨by simp,.inl ⟨rfl,rfl⟩⟩,by simp,il⟩)
 refine⟨id,e2,hi.size,hi.defers,ρ',e4,h2.trans e5,λt=>?_⟩
 have h4:=e5.rep (h3 t)
 unfold gD at h4⊢
 simp only[look]
 by_cases ht:t=d
 ·subst ht
  rw[hl] at h4
  rw[if_pos U]
  rw[aV h4]
  exact .nu id sz e3
 ·rw[if_neg ht];exact h4
theorem US.kZ(d e sz:Nat)(hz:0<sz)(hl:look l d=some (.v (.slice none 0 0)))(hk:∀id,US P n ops Q H0 rest ((d,.own id 0 0 sz)::l) ((id,.row e sz [])::I)):US P n ops Q H0 rest l I:=by
 intro hd E a w hi
 obtain⟨id,h1,h2⟩:=Xw hz e hl hi
 exact hk id (.cons h1 hd) E a w h2
theorem US.freeze(d:Nat){off len:Nat}(k:Nat)(hl:look l d=some (.own id off len sz))(h2:I[k]? =some (id,.row e sz rows))(hle:off+len<=rows.length)(hk:US P n ops Q H0 rest ((d,.sl ((rows.drop off).take len))::l) (I.eraseIdx k)):US P n ops Q H0 rest l I:=by
 intro hd
 obtain⟨e1,e2⟩:=hd.kill h2
 have hs:Sub (aD H0 (I.eraseIdx k)) (aD H0 I):=gP hd e2 (λp hp=>List.mem_of_mem_eraseIdx hp)
 refine vV.turn hs (λt=>?_) (hk e2)
 unfold gD
 simp only[look]
 by_cases ht:t=d
 ·subst ht
  rw[hl,if_pos U]
  exact bO.own hs (hd.at_ h2) (by rw[<-e1];simp) hle U (λi cs cs' h1 h2=>by
   rw[h1] at h2;cases h2
   exact⟨rfl,λj u u' h3 h4=>by rw[h3] at h4;cases h4;exact bO.drop hs u⟩)
 ·rw[if_neg ht];exact bO.drop hs _
theorem au.post{f:Nat}{us:List AV}{H:Hp}{K K':AV->Hp->Prop}(h:au P f us H K)(hk:∀u H1,K u H1->∃u' H2,Sub H2 H1/\bO H1 u H2 u'/\K' u' H2):au P f us H K':=au.turn h hk
theorem yX{α:Type}:∀(us ls:List α),us.length=ls.length->gz ls 0 us=us
 |[],[],_=>rfl
 |u::us,l::ls,h=>by
  show gz ((l::ls).set 0 u) 1 us=_
  rw[List.set_cons_zero,xO,yX us ls (by simpa using h)]
 |[],_::_,h=>by simp at h
 |_::_,[],h=>by simp at h
theorem US.dV{ls:List AV}(hd:o.dst=some d)(hn:d<n)(hg:o.guard=none)(ho:o.op=.load t x)(ht:eQ P t=some (true,sz))(hx:aW l x=some (.ptr id 0))(h2:I[k]? =some (id,.box e ls))(hl:ls.length=sz)
 (hk:US P n ops Q H0 rest ((d,.agg ls)::l) I):US P n ops Q H0 (o::rest) l I:=
 US.wB hd hn hg ho hx h2 ht U (by rw[<-hl];simp[cellsOf]) (by simp[cellsOf,hl]) hk
theorem US.dw{ls:List AV}{aM:List (Nat×Ob)}{bb:Bool}(hd:o.dst=none)(hg:o.guard=none)(ho:o.op=.store t x y)(ht:eQ P t=some (bb,sz))(hx:aW l x=some (.ptr id 0))(h2:I[k]? =some (id,.box e ls))(hls:ls.length=sz)(hy:aW l y=some u)(hf:qf u=some cells)(hc:cells.all aT=true)
 (hl:cells.length=sz) (ji:I.set k (id,.box e cells)=aM)
 (hk:US P n ops Q H0 rest l aM):US P n ops Q H0 (o::rest) l I:=
 US.pJ hd hg ho hx h2 hy hf hc ht hl (by rw[hls];omega) (yX cells ls (by rw[hl,hls])) (by rw[ji];exact hk)
end
end
end Go.iG
end
