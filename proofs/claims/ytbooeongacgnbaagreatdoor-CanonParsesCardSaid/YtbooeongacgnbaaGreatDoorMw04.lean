/- A part of the proof. -/
import Derived.Test.YtbooeongacgnbaaGreatDoorMw03
set_option maxRecDepth 100000
set_option maxHeartbeats 4000000
set_option linter.unusedSectionVars false
set_option linter.unusedVariables false
set_option linter.unusedSimpArgs false
section
namespace Go.gW
open Go Go.RowKit
section
variable [Rd]
def look:List (Nat×AV)->Nat->Option AV
 |[],_=>none
 |(d,u)::l,t=>if t=d then some u else look l t
def gz(l:List (Nat×AV)):Sl:=λt=>(look l t).getD .any
def bA(l:List (Nat×AV)):Operand->Option AV
 | .tmp t=>look l t
 | .const x=>some (.v x)
 | .global g=>some (.v (.pointer (some ⟨g,0,none⟩)))
 | .func f=>some (.lW f [])
theorem P6(l:List (Nat×AV))(d:Nat)(u:AV):upd (gz l) d u=gz ((d,u)::l):=by
 funext t
 unfold upd gz
 simp only[look]
 split<;>simp
def aB(H0:Hp):List (Nat×Ob)->Hp
 |[]=>H0
 |(i,ob)::r=>set (aB H0 r) i (some ob)
inductive aK (H0:Hp):List (Nat×Ob)->Prop
 |nil:aK H0 []
 |cons {i:Nat} {ob:Ob} {r:List (Nat×Ob)} (h:aB H0 r i=none) (hr:aK H0 r):aK H0 ((i,ob)::r)
theorem l6{H0:Hp}:∀{r:List (Nat×Ob)} {i:Nat},aB H0 r i=none->H0 i=none/\∀p∈r,p.1≠i
 |[],i,h=>⟨h,by simp⟩
 |(j,ob)::r,i,h=>by
  unfold aB at h
  by_cases hij:i=j
  ·subst hij;simp at h
  ·rw[dV _ _ hij] at h
   obtain⟨h1,h2⟩:=l6 h
   refine⟨h1,λp hp=>?_⟩
   rcases List.mem_cons.1 hp with rfl|hp
   ·exact Ne.symm hij
   ·exact h2 p hp
theorem pG{H0:Hp}:∀{r:List (Nat×Ob)} {i:Nat},H0 i=none->(∀p∈r,p.1≠i)->aB H0 r i=none
 |[],i,h,_=>h
 |(j,ob)::r,i,h,h2=>by
  unfold aB
  rw[dV _ _ (Ne.symm (h2 (j,ob) (by simp)))]
  exact pG h (λp hp=>h2 p (by simp[hp]))
theorem aK.at_{H0:Hp}:∀{r:List (Nat×Ob)} {k i:Nat} {ob:Ob},aK H0 r->r[k]? =some (i,ob)->aB H0 r i=some ob
 |[],k,i,ob,_,h=>by simp at h
 |(j,o)::r,0,i,ob,_,h=>by simp at h;obtain⟨rfl,rfl⟩:=h;simp[aB]
 |(j,o)::r,k+1,i,ob,.cons h1 h2,h=>by
  have h3:=aK.at_ h2 (k:=k) (by simpa using h)
  have:i≠j:=by rintro rfl;rw[h3] at h1;cases h1
  unfold aB
  rw[dV _ _ this]
  exact h3
theorem aK.base{H0:Hp}:∀{r:List (Nat×Ob)} {k i:Nat} {ob:Ob},aK H0 r->r[k]? =some (i,ob)->H0 i=none
 |[],k,i,ob,_,h=>by simp at h
 |(j,o)::r,0,i,ob,.cons h1 h2,h=>by simp at h;obtain⟨rfl,rfl⟩:=h;exact(l6 h1).1
 |(j,o)::r,k+1,i,ob,.cons h1 h2,h=>aK.base h2 (k:=k) (by simpa using h)
theorem aK.kg{H0:Hp}:∀{r:List (Nat×Ob)} {k i:Nat} {ob:Ob} (zF:Ob),aK H0 r->r[k]? =some (i,ob)->set (aB H0 r) i (some zF)=aB H0 (r.set k (i,zF))/\aK H0 (r.set k (i,zF))
 |[],k,i,ob,_,_,h=>by simp at h
 |(j,o)::r,0,i,ob,zF,.cons h1 h2,h=>by
  simp at h;obtain⟨rfl,rfl⟩:=h
  refine⟨?_,.cons h1 h2⟩
  funext t
  simp only[List.set_cons_zero,aB,gW.set]
  split<;>rfl
 |(j,o)::r,k+1,i,ob,zF,.cons h1 h2,h=>by
  have hk:r[k]? =some (i,ob):=by simpa using h
  have h3:=aK.at_ h2 hk
  have hij:i≠j:=by rintro rfl;rw[h3] at h1;cases h1
  obtain⟨h4,h5⟩:=aK.kg zF h2 hk
  refine⟨?_,?_⟩
  ·rw[List.set_cons_succ]
   show _=set (aB H0 (r.set k (i,zF))) j (some o)
   rw[<-h4]
   funext t
   simp only[aB,gW.set]
   split
   ·rename_i ht;subst ht;rw[if_neg hij]
   ·rfl
  ·rw[List.set_cons_succ]
   refine .cons ?_ h5
   rw[<-h4,dV _ _ (Ne.symm hij)]
   exact h1
theorem aK.kill{H0:Hp}:∀{r:List (Nat×Ob)} {k i:Nat} {ob:Ob},aK H0 r->r[k]? =some (i,ob)->set (aB H0 r) i none=aB H0 (r.eraseIdx k)/\aK H0 (r.eraseIdx k)
 |[],k,i,ob,_,h=>by simp at h
 |(j,o)::r,0,i,ob,.cons h1 h2,h=>by
  simp at h;obtain⟨rfl,rfl⟩:=h
  refine⟨?_,by simpa using h2⟩
  funext t
  simp only[List.eraseIdx_cons_zero,aB,gW.set]
  split
  ·rename_i ht;subst ht;exact h1.symm
  ·rfl
 |(j,o)::r,k+1,i,ob,.cons h1 h2,h=>by
  have hk:r[k]? =some (i,ob):=by simpa using h
  have h3:=aK.at_ h2 hk
  have hij:i≠j:=by rintro rfl;rw[h3] at h1;cases h1
  obtain⟨h4,h5⟩:=aK.kill h2 hk
  refine⟨?_,?_⟩
  ·rw[List.eraseIdx_cons_succ]
   show _=set (aB H0 (r.eraseIdx k)) j (some o)
   rw[<-h4]
   funext t
   simp only[aB,gW.set]
   split
   ·rename_i ht;subst ht;rw[if_neg hij]
   ·rfl
  ·rw[List.eraseIdx_cons_succ]
   refine .cons ?_ h5
   rw[<-h4,dV _ _ (Ne.symm hij)]
   exact h1
theorem gB{H0:Hp}{r r':List (Nat×Ob)}(hd:aK H0 r)(hd':aK H0 r')(h:∀p∈r',p∈r):Sub (aB H0 r') (aB H0 r):=by
 intro i ob hi
 have key:∀{ob:Ob} {r':List (Nat×Ob)},aK H0 r'->aB H0 r' i=some ob->(i,ob)∈r'\/(H0 i=some ob):=by
  intro ob r' hd'
  induction hd' with
  |nil=>exactλh=> .inr h
  | @cons j o r h1 h2 ih=>
    intro h
    unfold aB at h
    by_cases hij:i=j
    ·subst hij;rw[set_self] at h;cases h;exact .inl (by simp)
    ·rw[dV _ _ hij] at h
     rcases ih h with h|h
     ·exact .inl (by simp[h])
     ·exact .inr h
 rcases key hd' hi with h1|h1
 ·obtain⟨k,hk⟩:=List.getElem?_of_mem (h _ h1)
  exact hd.at_ hk
 ·cases he:aB H0 r i with
  |none=>rw[(l6 he).1] at h1;cases h1
  |some Zz=>
   rcases key hd he with h2|h2
   ·obtain⟨k,hk⟩:=List.getElem?_of_mem h2
    rw[hd.base hk] at h1;cases h1
   ·rw[h1] at h2;exact h2.symm
theorem aK.sub{H0:Hp}{r r':List (Nat×Ob)}(hd:aK H0 r)(h:r'.Sublist r):aK H0 r':=by
 induction h with
 |slnil=>exact .nil
 |cons a h ih=>cases hd with|cons h1 h2=>exact ih h2
 | @cons_cons l1 l2 a h ih=>
   obtain⟨i,ob⟩:=a
   cases hd with
   |cons h1 h2=>
    refine .cons ?_ (ih h2)
    obtain⟨a1,a2⟩:=l6 h1
    exact pG a1 (λp hp=>a2 p (h.subset hp))
section
variable {P:Program} {n:Nat} {ops:Array Oper} {Q:oo->Sl->Hp->Prop} {H0:Hp} {l:List (Nat×AV)} {M:List (Nat×Ob)} {rest:List Oper} {o:Oper} {c:Code}
def US(P:Program)(n:Nat)(ops:Array Oper)(Q:oo->Sl->Hp->Prop)(H0:Hp)(rest:List Oper)(l:List (Nat×AV))(M:List (Nat×Ob)):Prop:=
 aK H0 M->qR P n ops Q rest (gz l) (aB H0 M)
def UW(P:Program)(n:Nat)(Q:oo->Sl->Hp->Prop)(H0:Hp)(c:Code)(l:List (Nat×AV))(M:List (Nat×Ob)):Prop:=
 aK H0 M->AW P n c Q (gz l) (aB H0 M)
def UQ(Q:oo->Sl->Hp->Prop)(H0:Hp)(e:oo)(l:List (Nat×AV))(M:List (Nat×Ob)):Prop:=aK H0 M->Q e (gz l) (aB H0 M)
theorem UW.seq{x y:Code}(h:UW P n (ku (AW P n y Q) Q) H0 x l M):UW P n Q H0 (.seq x y) l M:=λhd=>AW.seq (h hd)
theorem UW.region{id:Nat}{ol:List Oper}(h:US P n ol.toArray Q H0 ol l M):UW P n Q H0 (.region id ol.toArray false) l M:=λhd=>AW.IW (h hd)
theorem UW.block{id:Nat}(h:UW P n (jO id Q) H0 c l M):UW P n Q H0 (.block id c) l M:=λhd=>AW.block (h hd)
theorem UW.skip(h:UQ Q H0 .normal l M):UW P n Q H0 .skip l M:=λhd=>AW.skip (h hd)
theorem UW.exit{id:Nat}(h:UQ Q H0 (.exit id) l M):UW P n Q H0 (.exit id) l M:=λhd=>AW.exit (h hd)
theorem UW.ret(h:UQ Q H0 .ret l M):UW P n Q H0 .ret l M:=λhd=>AW.ret (h hd)
theorem US.nil(h:UQ Q H0 .normal l M):US P n ops Q H0 [] l M:=λhd=>qR.nil (h hd)
theorem UQ.then{y:Code}(h:UW P n Q H0 y l M):UQ (ku (AW P n y Q) Q) H0 .normal l M:=h
theorem UQ.pass{N:Sl->Hp->Prop}{id:Nat}(h:UQ Q H0 (.exit id) l M):UQ (ku N Q) H0 (.exit id) l M:=h
theorem UQ.aj{N:Sl->Hp->Prop}(h:UQ Q H0 .ret l M):UQ (ku N Q) H0 .ret l M:=h
theorem UQ.here{id:Nat}(h:UQ Q H0 .normal l M):UQ (jO id Q) H0 (.exit id) l M:=λhd=>by
 simp only[jO,if_true];exact h hd
theorem UQ.out{id id':Nat}(hne:id'≠id)(h:UQ Q H0 (.exit id') l M):UQ (jO id Q) H0 (.exit id') l M:=λhd=>by
 simp only[jO,if_neg hne];exact h hd
theorem UQ.aI{id:Nat}(h:UQ Q H0 .normal l M):UQ (jO id Q) H0 .normal l M:=h
theorem UQ.az{id:Nat}(h:UQ Q H0 .ret l M):UQ (jO id Q) H0 .ret l M:=h
theorem aJ{x:Operand}{u:AV}(h:bA l x=some u):ev (gz l) x=u:=by
 cases x with
 |tmp t=>
  have h':look l t=some u:=h
  show(look l t).getD .any=u
  rw[h'];rfl
 |const x=>cases h;rfl
 |global g=>cases h;rfl
 |func f=>cases h;rfl
theorem US.step{d:Nat}(hd:o.dst=some d)(hn:d<n)(h:aK H0 M->Does P n ops o (gz l) (aB H0 M) (λu H'=>∃aL,H'=aB H0 aL/\aK H0 aL/\US P n ops Q H0 rest ((d,u)::l) aL)):US P n ops Q H0 (o::rest) l M:=by
 intro aD
 refine qR.cons<|(h aD).mono<|?_
 rintro u H' ⟨aL,rfl,h1,h2⟩
 have:=h2 h1
 rw[<-P6] at this
 simpa[F7,hd,hn] using this
theorem US.step0(hd:o.dst=none)(h:aK H0 M->Does P n ops o (gz l) (aB H0 M) (λ_ H'=>∃aL,H'=aB H0 aL/\aK H0 aL/\US P n ops Q H0 rest l aL)):US P n ops Q H0 (o::rest) l M:=by
 intro aD
 refine qR.cons<|(h aD).mono<|?_
 rintro u H' ⟨aL,rfl,h1,h2⟩
 simpa[F7,hd] using h2 h1
variable {d:Nat} {x y:Operand} {u:AV} {t e sz b:Nat} {id off k:Nat} {ob:Ob} {cells:List AV} {rows:List (List AV)}
theorem US.move(hd:o.dst=some d)(hn:d<n)(hg:o.guard=none)(ho:o.op=.move x)(hx:bA l x=some u)(hk:US P n ops Q H0 rest ((d,u)::l) M):US P n ops Q H0 (o::rest) l M:=
 US.step hd hn λaD=>Does.move hg ho ⟨M,rfl,aD,by rw[aJ hx];exact hk⟩
def mr:AV->Option (List AV)
 | .agg l=>some l
 |u=>some [u]
theorem fe{u:AV}{cs:List AV}(h:mr u=some cs):flat u=cs:=by
 cases u<;>simp_all[mr,flat]
theorem US.box(hd:o.dst=some d)(hn:d<n)(hg:o.guard=none)(ho:o.op=.box e x)(hx:bA l x=some u)(hf:mr u=some cells)(hc:cells.all cK=true)
 (hk:∀id,US P n ops Q H0 rest ((d,.ptr id 0)::l) ((id,.box e cells)::M)):US P n ops Q H0 (o::rest) l M:=
 US.step hd hn λaD=>Does.box hg ho (by rw[aJ hx,fe hf];exact hc) λid hid=>⟨(id,.box e cells)::M,by rw[aJ hx,fe hf];rfl,.cons hid aD,hk id⟩
theorem US.alloc{z:Value}{zs:List AV}(hd:o.dst=some d)(hn:d<n)(hg:o.guard=none)(ho:o.op=.alloc e)(hz:(P.info? e).map (·.zero)=some (some z))(hc:z.cells.toList.all (·.oneCell')=true)(hzs:z.cells.toList.map AV.v=zs)
 (hk:∀id,US P n ops Q H0 rest ((d,.ptr id 0)::l) ((id,.box e zs)::M)):US P n ops Q H0 (o::rest) l M:=
 US.step hd hn λaD=>Does.alloc hg ho hz hc λid hid=>⟨(id,.box e zs)::M,by rw[hzs];rfl,.cons hid aD,hk id⟩
theorem US.vC{ls rs:List AV}(hd:o.dst=some d)(hn:d<n)(hg:o.guard=none)(ho:o.op=.load t x)(hx:bA l x=some (.ptr id off))(h2:M[k]? =some (id,ob))(ht:eQ P t=some (true,sz))(hcs:cellsOf ob=ls)(hr:(ls.drop off).take sz=rs)(hs:off+sz<=ls.length)
 (hk:US P n ops Q H0 rest ((d,.agg rs)::l) M) (hm:F9 ob=true:=by rfl):US P n ops Q H0 (o::rest) l M:=
 US.step hd hn λaD=>Does.vC hg ho (aJ hx) (aD.at_ h2) ht (by rw[hcs];exact hs) ⟨M,rfl,aD,by rw[hcs,hr];exact hk⟩ (hm:=hm)
theorem US.iR(hd:o.dst=some d)(hn:d<n)(hg:o.guard=none)(ho:o.op=.load t x)(hx:bA l x=some (.rp cells))(ht:eQ P t=some (true,sz))(hl:cells.length=sz)
 (hk:US P n ops Q H0 rest ((d,.agg cells)::l) M):US P n ops Q H0 (o::rest) l M:=
 US.step hd hn λaD=>Does.iR hg ho (aJ hx) (by rw[hl];exact ht) ⟨M,rfl,aD,hk⟩
theorem US.eZ{r:List AV}(hd:o.dst=some d)(hn:d<n)(hg:o.guard=none)(ho:o.op=.load t x)(hx:bA l x=some (.rp (u::r)))(ht:eQ P t=some (false,sz))
 (hk:US P n ops Q H0 rest ((d,u)::l) M):US P n ops Q H0 (o::rest) l M:=
 US.step hd hn λaD=>Does.eZ hg ho (aJ hx) ht ⟨M,rfl,aD,hk⟩
theorem US.lX{ls ls':List AV}{bb:Bool}(hd:o.dst=none)(hg:o.guard=none)(ho:o.op=.store t x y)(hx:bA l x=some (.ptr id off))(h2:M[k]? =some (id,.box e ls))(hy:bA l y=some u)(hf:mr u=some cells)(hc:cells.all cK=true)
 (ht:eQ P t=some (bb,sz)) (hl:cells.length=sz) (hs:off+sz<=ls.length) (hr:gQ ls off cells=ls')
 (hk:US P n ops Q H0 rest l (M.set k (id,.box e ls'))):US P n ops Q H0 (o::rest) l M:=
 US.step0 hd λaD=>Does.lX hg ho (aJ hx) (aD.at_ h2) (by rw[aJ hy,fe hf];exact hc) (by rw[aJ hy,fe hf,hl];exact ht) (by rw[aJ hy,fe hf,hl];exact hs)
  ⟨_,by rw[aJ hy,fe hf,hr];exact(aD.kg _ h2).1,(aD.kg _ h2).2,hk⟩
theorem US.fieldAddr{f off':Nat}(hd:o.dst=some d)(hn:d<n)(hg:o.guard=none)(ho:o.op=.fieldAddr t x f)(hx:bA l x=some (.ptr id off))(h:dM P t f=some off')
 (hk:US P n ops Q H0 rest ((d,.ptr id (off+off'))::l) M):US P n ops Q H0 (o::rest) l M:=
 US.step hd hn λaD=>Does.fieldAddr hg ho (aJ hx) h ⟨M,rfl,aD,hk⟩
theorem US.dN{ki:IntKind}{i:Int}{cs:List AV}(hd:o.dst=some d)(hn:d<n)(hg:o.guard=none)(ho:o.op=.indexAddr t x y)(ht:lY P t=some (e,sz,b))(hx:bA l x=some (.sl rows))(hy:bA l y=some (.v (.int ki i)))(h0:0<=i)(h1:rows[i.toNat]? =some cs)(hs:cs.length=sz)
 (hk:US P n ops Q H0 rest ((d,.rp cs)::l) M):US P n ops Q H0 (o::rest) l M:=
 US.step hd hn λaD=>Does.dN hg ho ht (aJ hx) (aJ hy) h0 h1 hs ⟨M,rfl,aD,hk⟩
theorem US.bz{ki:IntKind}{i c:Int}{str:ByteArray}(hd:o.dst=some d)(hn:d<n)(hg:o.guard=none)(ho:o.op=.index t x y)(ht:P.underlying t=some .string)(hx:bA l x=some (.v (.string str)))(hy:bA l y=some (.v (.int ki i)))(h0:0<=i)(h1:i<str.size)(hcc:c=((str[i.toNat]'(by omega)).toNat:Int))
 (hk:US P n ops Q H0 rest ((d,.v (.int .u8 c))::l) M):US P n ops Q H0 (o::rest) l M:=
 US.step hd hn λaD=>Does.bz hg ho ht (aJ hx) (aJ hy) h0 h1 hcc ⟨M,rfl,aD,hk⟩
inductive kV (l:List (Nat×AV)) (len:Nat):Option Operand->Option Operand->Nat->Nat->Prop
 |all:kV l len none none 0 len
 |lo {x:Operand} {k:IntKind} {a:Nat} (h:bA l x=some (.v (.int k (a:Int)))):kV l len (some x) none a len
 |hi {x:Operand} {k:IntKind} {a:Nat} (h:bA l x=some (.v (.int k (a:Int)))):kV l len none (some x) 0 a
 |both {x y:Operand} {k k':IntKind} {a a':Nat} (h:bA l x=some (.v (.int k (a:Int)))) (hh:bA l y=some (.v (.int k' (a':Int)))):kV l len (some x) (some y) a a'
theorem kV.to{len a a':Nat}{lo hi:Option Operand}(h:kV l len lo hi a a'):BL (gz l) len lo hi a a':=by
 cases h with
 |all=>exact .all
 |lo h=>exact .lo _ _ _ (aJ h)
 |hi h=>exact .hi _ _ _ (aJ h)
 |both h hh=>exact .both _ _ _ _ _ _ (aJ h) (aJ hh)
theorem US.lZ{lo hi:Option Operand}{a a':Nat}{str:ByteArray}(hd:o.dst=some d)(hn:d<n)(hg:o.guard=none)(ho:o.op=.slice t x lo hi none)(ht:P.underlying t=some .string)(hx:bA l x=some (.v (.string str)))
 (hb:kV l str.size lo hi a a') (h1:a<=a') (h2:a'<=str.size) (hk:US P n ops Q H0 rest ((d,.v (.string (str.extract a a')))::l) M):US P n ops Q H0 (o::rest) l M:=
 US.step hd hn λaD=>Does.lZ hg ho ht (aJ hx) hb.to h1 h2 ⟨M,rfl,aD,hk⟩
theorem US.lC(hd:o.dst=some d)(hn:d<n)(hg:o.guard=none)(ho:o.op=.call {callee:=.builtin .len,args:= #[x],argTypes:= #[t]})(ht:lY P t=some (e,sz,b))(hx:bA l x=some (.sl rows))
 (hk:US P n ops Q H0 rest ((d,.v (.int .i64 (rows.length:Int)))::l) M):US P n ops Q H0 (o::rest) l M:=
 US.step hd hn λaD=>Does.lC hg ho ht (aJ hx) ⟨M,rfl,aD,hk⟩
theorem US.nG{str:ByteArray}(hd:o.dst=some d)(hn:d<n)(hg:o.guard=none)(ho:o.op=.call {callee:=.builtin .len,args:= #[x],argTypes:= #[t]})(ht:P.underlying t=some .string)(hx:bA l x=some (.v (.string str)))
 (hk:US P n ops Q H0 rest ((d,.v (.int .i64 (str.size:Int)))::l) M):US P n ops Q H0 (o::rest) l M:=
 US.step hd hn λaD=>Does.nG hg ho ht (aJ hx) ⟨M,rfl,aD,hk⟩
theorem US.aG{op:BinOp}{t2:Nat}{ki:IntKind}{a c:Int}{r:Value}(hd:o.dst=some d)(hn:d<n)(hg:o.guard=none)(ho:o.op=.binOp op t x y t2)(hx:bA l x=some (.v (.int ki a)))(hy:bA l y=some (.v (.int ki c)))(h:fu op ki a c=some r)
 (hk:US P n ops Q H0 rest ((d,.v r)::l) M):US P n ops Q H0 (o::rest) l M:=
 US.step hd hn λaD=>Does.aG hg ho (aJ hx) (aJ hy) h ⟨M,rfl,aD,hk⟩
theorem US.rT{t2:Nat}{ki kj:IntKind}{a c r:Int}(hd:o.dst=some d)(hn:d<n)(hg:o.guard=none)(ho:o.op=.binOp .shr t x y t2)(hx:bA l x=some (.v (.int ki a)))(hy:bA l y=some (.v (.int kj c)))(hb:0<=c)(hr:a.fdiv (2^min c.toNat ki.bits)=r)
 (hk:US P n ops Q H0 rest ((d,.v (.int ki r))::l) M):US P n ops Q H0 (o::rest) l M:=
 US.step hd hn λaD=>Does.rT hg ho (aJ hx) (aJ hy) hb ⟨M,rfl,aD,by rw[hr];exact hk⟩
theorem US.kQ{op:BinOp}{t2:Nat}{a c:ByteArray}{r:Bool}(hd:o.dst=some d)(hn:d<n)(hg:o.guard=none)(ho:o.op=.binOp op t x y t2)(hx:bA l x=some (.v (.string a)))(hy:bA l y=some (.v (.string c)))(h:fB op a c=some r)
 (hk:US P n ops Q H0 rest ((d,.v (.bool r))::l) M):US P n ops Q H0 (o::rest) l M:=
 US.step hd hn λaD=>Does.kQ hg ho (aJ hx) (aJ hy) h ⟨M,rfl,aD,hk⟩
theorem US.DX{t2:Nat}(hd:o.dst=some d)(hn:d<n)(hg:o.guard=none)(ho:o.op=.binOp .eql t x (.const (.slice none 0 0)) t2)(ht:P.underlying t=some (.slice e))(hx:bA l x=some (.sl rows))
 (hk:∀c:Bool,(c=true->rows=[])->US P n ops Q H0 rest ((d,.v (.bool c))::l) M):US P n ops Q H0 (o::rest) l M:=
 US.step hd hn λaD=>Does.DX (m:=rows.length) hg ho ht U (λρ w z hz=>by
  rw[aJ hx] at hz
  cases hz with
  |nil=>exact⟨none,0,rfl,λ_=>rfl⟩
  |sl _ a cap sz vals h1 h2 h3 h4 h5 h6=>exact⟨_,_,rfl,λh=>by cases h⟩) λc hc=>⟨M,rfl,aD,hk c (λh=>List.eq_nil_of_length_eq_zero (hc h))⟩
theorem US.vF{s2:Nat}{ki kj:IntKind}{a:Int}(hd:o.dst=some d)(hn:d<n)(hg:o.guard=none)(ho:o.op=.convert t s2 x)(hs:(P.underlying t).isSome=true)(ht:P.underlying s2=some (.int kj))(hx:bA l x=some (.v (.int ki a)))
 (hk:US P n ops Q H0 rest ((d,.v (.int kj (kj.wrap a)))::l) M):US P n ops Q H0 (o::rest) l M:=
 US.step hd hn λaD=>Does.vF hg ho hs ht (aJ hx) ⟨M,rfl,aD,hk⟩
theorem US.min2{at_:Array TypeId}{ki kj:IntKind}{a c:Int}(hd:o.dst=some d)(hn:d<n)(hg:o.guard=none)(ho:o.op=.call {callee:=.builtin .min,args:= #[x,y],argTypes:=at_})(hx:bA l x=some (.v (.int ki a)))(hy:bA l y=some (.v (.int kj c)))
 (hk:US P n ops Q H0 rest ((d,.v (.int ki (if c<a then c else a)))::l) M):US P n ops Q H0 (o::rest) l M:=
 US.step hd hn λaD=>Does.min2 hg ho (aJ hx) (aJ hy) ⟨M,rfl,aD,hk⟩
inductive xR (M:List (Nat×Ob)) (sz:Nat):AV->List (List AV)->Prop
 |sl {rows:List (List AV)} (h:∀cs∈rows,cs.length=sz):xR M sz (.sl rows) rows
 |nil:xR M sz (.v (.slice none 0 0)) []
 |own {k id off len e:Nat} {iB rs:List (List AV)} (h:M[k]? =some (id,.row e sz iB)) (hle:off+len<=iB.length) (hr:(iB.drop off).take len=rs):xR M sz (.own id off len sz) rs
theorem xR.to(hd:aK H0 M){u:AV}{rs:List (List AV)}(h:xR M sz u rs):Src (aB H0 M) sz u rs:=by
 cases h with
 |sl h=>exact .sl _ h
 |nil=>exact .nil
 |own h hle hr=>subst hr;exact .own _ _ _ _ _ (hd.at_ h) hle
theorem US.jD{s:Operand}{len:Nat}{news rs:List (List AV)}(hd:o.dst=some d)(hn:d<n)(hg:o.guard=none)(ho:o.op=.call {callee:=.builtin .append,args:= #[s,x],argTypes:= #[t,t]})(ht:kC P t e sz b)
 (hs:bA l s=some (.own id 0 len sz)) (h2:M[k]? =some (id,.row e sz rows)) (hle:len<=rows.length) (hx:bA l x=some u) (hsrc:xR M sz u news) (hb:(len+news.length)*b<=140737488355328) (hr:rows.take len++news=rs)
 (hk:∀id',US P n ops Q H0 rest ((d,.own id' 0 (len+news.length) sz)::l) ((id',.row e sz rs)::M.eraseIdx k)):US P n ops Q H0 (o::rest) l M:=
 US.step hd hn λaD=>by
  have mD:=aD.kill h2
  refine Does.jD hg ho ht (aJ hs) (aD.at_ h2) hle (by rw[aJ hx];exact hsrc.to aD) hb λid' hid=>⟨(id',.row e sz rs)::M.eraseIdx k,?_,?_,hk id'⟩
  ·rw[mD.1,hr];rfl
  ·refine .cons ?_ mD.2
   rw[<-mD.1]
   by_cases h:id'=id
   ·subst h;simp
   ·rw[dV _ _ h];exact hid
def gD(l:List (Nat×AV)):List Operand->Option (List AV)
 |[]=>some []
 |x::r=>match bA l x,gD l r with
  |some u,some us=>some (u::us)
  |_,_=>none
theorem iJ:∀{xs:List Operand} {us:List AV},gD l xs=some us->xs.map (ev (gz l))=us
 |[],us,h=>by cases h;rfl
 |x::r,us,h=>by
  unfold gD at h
  split at h
  ·rename_i u lu h1 h2
   cases h
   rw[List.map_cons,aJ h1,iJ h2]
  ·cases h
theorem US.call{f:Nat}{cc:Operand}{args:Array Operand}{at_:Array TypeId}{dD us:List AV}{K:AV->Hp->Prop}(hd:o.dst=some d)(hn:d<n)(hg:o.guard=none)(ho:o.op=.call {callee:=.value cc,args:=args,argTypes:=at_})(hc:bA l cc=some (.lW f dD))(ha:gD l args.toList=some us)
 (h:aK H0 M->F P f (us++dD) (aB H0 M) K) (hk:∀u H',K u H'->∃aL,H'=aB H0 aL/\(aK H0 M->aK H0 aL)/\US P n ops Q H0 rest ((d,u)::l) aL):US P n ops Q H0 (o::rest) l M:=
 US.step hd hn λaD=>Does.call hg ho (aJ hc) (by
  rw[iJ ha]
  exact(h aD).mono λu H' hK=>by
   obtain⟨aL,e1,e2,e3⟩:=hk u H' hK
   exact⟨aL,e1,e2 aD,e3⟩)
theorem US.gq{f:Nat}{cc:Operand}{args:Array Operand}{at_:Array TypeId}{dD us:List AV}{r:AV}(hd:o.dst=some d)(hn:d<n)(hg:o.guard=none)(ho:o.op=.call {callee:=.value cc,args:=args,argTypes:=at_})(hc:bA l cc=some (.lW f dD))(ha:gD l args.toList=some us)
 (h:aK H0 M->F P f (us++dD) (aB H0 M) (λu H'=>u=r/\H'=aB H0 M)) (hk:US P n ops Q H0 rest ((d,r)::l) M):US P n ops Q H0 (o::rest) l M:=
 US.call hd hn hg ho hc ha h λu H' ⟨h1,h2⟩=>⟨M,h2,λx=>x,by rw[h1];exact hk⟩
theorem US.qW{f:Nat}{cc:Operand}{args:Array Operand}{at_:Array TypeId}{dD us:List AV}{R:AV->List (Nat×Ob)->Prop}(hd:o.dst=some d)(hn:d<n)(hg:o.guard=none)(ho:o.op=.call {callee:=.value cc,args:=args,argTypes:=at_})(hc:bA l cc=some (.lW f dD))(ha:gD l args.toList=some us)
 (h:aK H0 M->F P f (us++dD) (aB H0 M) (λu H'=>∃news,aK (aB H0 M) news/\H'=aB (aB H0 M) news/\R u news)) (hk:∀u news,R u news->US P n ops Q H0 rest ((d,u)::l) (news++M)):US P n ops Q H0 (o::rest) l M:=by
 have hap:∀news:List (Nat×Ob),aB (aB H0 M) news=aB H0 (news++M):=by
  intro news
  induction news with
  |nil=>rfl
  |cons p r ih=>obtain⟨i,ob⟩:=p;show set _ _ _=set _ _ _;rw[ih];rfl
 have hdi:aK H0 M->∀news:List (Nat×Ob),aK (aB H0 M) news->aK H0 (news++M):=by
  intro aD news hnew
  induction hnew with
  |nil=>exact aD
  | @cons i ob r h1 h2 ih=>exact .cons (show aB H0 (r++M) i=none by rw[<-hap];exact h1) ih
 intro TT
 exact US.call (Q:=Q) (rest:=rest) hd hn hg ho hc ha h (λu H' ⟨news,h1,h2,h3⟩=>⟨news++M,by rw[h2,hap],λaD=>hdi aD news h1,hk u news h3⟩) TT
theorem US.on{g:Nat×Bool}{dg:Nat}(hg:o.guard=some g)(hdg:(ops[g.1]?).bind (·.dst)=some dg)(hdn:dg<n)(hT:look l dg=some (.v (.bool g.2)))
 (h:US P n ops Q H0 ({o with guard:=none}::rest) l M):US P n ops Q H0 (o::rest) l M:=by
 intro aD E a w hi
 have h1:=h aD E a w hi
 have hw:Region.wanted o (yielded ops a.tmps)=true:=by
  obtain⟨ρ,_,_,h4⟩:=hi.rel
  have h5:=h4 dg
  have h6:gz l dg=.v (.bool g.2):=by unfold gz;rw[hT];rfl
  rw[h6] at h5
  have h7:=aP h5
  have:a.tmps[dg]? =some (.bool g.2):=by
   rw[Array.getD_eq_getD_getElem?,Array.getElem?_eq_getElem (by rw[hi.size];exact hdn)] at h7
   rw[Array.getElem?_eq_getElem (by rw[hi.size];exact hdn)]
   simpa using h7
  simp[Region.wanted,hg,yielded,hdg,this]
 unfold wpListIn at h1⊢
 rw[if_pos hw]
 rw[if_pos (by simp[Region.wanted])] at h1
 exact h1
theorem UW.cond{cc:Operand}{y1 y2:Code}{bb:Bool}(hc:bA l cc=some (.v (.bool bb)))(ht:bb=true->UW P n Q H0 y1 l M)(hf:bb=false->UW P n Q H0 y2 l M):UW P n Q H0 (.cond cc y1 y2) l M:=
 λhd=>AW.cond bb (aJ hc) (λh=>ht h hd) (λh=>hf h hd)
def LU(l:List (Nat×AV)):List (Nat×AV)->Prop
 |[]=>True
 |p::r=>look l p.1=some p.2/\LU l r
theorem LU.look:∀{l':List (Nat×AV)},LU l l'->∀{t:Nat} {u:AV},gW.look l' t=some u->gW.look l t=some u
 |[],_,t,u,h=>by cases h
 |(d,v)::r,⟨h1,h2⟩,t,u,h=>by
  unfold gW.look at h
  split at h
  ·rename_i ht;subst ht;cases h;exact h1
  ·exact LU.look h2 h
theorem rU{l':List (Nat×AV)}{aL:List (Nat×Ob)}(h:LU l l')(hs:Sub (aB H0 aL) (aB H0 M)):∀t,dw (aB H0 M) (gz l t) (aB H0 aL) (gz l' t):=by
 intro t
 unfold gz
 cases h1:gW.look l' t with
 |none=>exact dw.any _ _
 |some u=>rw[h.look h1];exact dw.drop hs u
theorem UW.keep(l':List (Nat×AV))(aL:List (Nat×Ob))(h:LU l l')(ho:aL.Sublist M)(hk:UW P n Q H0 c l' aL):UW P n Q H0 c l M:=λhd=>by
 have hd':=hd.sub ho
 have hs:=gB hd hd' (λp hp=>ho.subset hp)
 exact AW.turn hs (rU h hs) (hk hd')
theorem US.keep(l':List (Nat×AV))(aL:List (Nat×Ob))(h:LU l l')(ho:aL.Sublist M)(hk:US P n ops Q H0 rest l' aL):US P n ops Q H0 rest l M:=λhd=>by
 have hd':=hd.sub ho
 have hs:=gB hd hd' (λp hp=>ho.subset hp)
 exact qR.turn hs (rU h hs) (hk hd')
theorem UW.loop{α:Type}(L:α->List (Nat×AV))(O:α->List (Nat×Ob))(J:α->Prop)(μ:α->Nat)(a0:α)(h0:J a0)(hl:LU l (L a0))(ho:(O a0).Sublist M)
 (round:∀a,J a->UW P n (ku (λT H=>∃a',J a'/\μ a'<μ a/\aK H0 (O a')/\T=gz (L a')/\H=aB H0 (O a')) Q) H0 c (L a) (O a)):UW P n Q H0 (.loop c) l M:=by
 refine UW.keep (L a0) (O a0) hl ho λhd=>AW.loop (λm T H=>∃a,J a/\μ a=m/\aK H0 (O a)/\T=gz (L a)/\H=aB H0 (O a)) (μ a0) ⟨a0,h0,rfl,hd,rfl,rfl⟩<|?_
 rintro m T H ⟨a,hJ,rfl,hd',rfl,rfl⟩
 refine(round a hJ hd').mono<|?_
 intro e T' H' hq
 cases e with
 |normal=>obtain⟨a',h1,h2,h3,h4,h5⟩:=hq;exact⟨μ a',h2,a',h1,rfl,h3,h4,h5⟩
 |exit id=>exact hq
 |goto l=>exact hq
 |ret=>exact hq
theorem US.round{α:Type}{L:α->List (Nat×AV)}{O:α->List (Nat×Ob)}{J:α->Prop}{μ:α->Nat}{m:Nat}(a':α)(hJ:J a')(hm:μ a'<m)(hl:LU l (L a'))(ho:(O a').Sublist M):
 US P n ops (ku (λT H=>∃a',J a'/\μ a'<m/\aK H0 (O a')/\T=gz (L a')/\H=aB H0 (O a')) Q) H0 [] l M:=
 US.keep (L a') (O a') hl ho λhd=>qR.nil ⟨a',hJ,hm,hd,rfl,rfl⟩
def Ck:List AV->Nat->List (Nat×AV)
 |[],_=>[]
 |u::r,k=>(k,u)::Ck r (k+1)
theorem zQ:∀(us:List AV) (k t:Nat),k<=t->look (Ck us k) t=us[t-k]?
 |[],k,t,_=>by simp[Ck,look]
 |u::r,k,t,h=>by
  simp only[Ck,look]
  by_cases ht:t=k
  ·subst ht;simp
  ·rw[if_neg ht,zQ r (k+1) t (by omega)]
   have:t-k=(t-(k+1))+1:=by omega
   rw[this,List.getElem?_cons_succ]
def Ny(P:Program)(fn:Func)(K:AV->Hp->Prop):oo->Sl->Hp->Prop:=λe T' H'=>(match e with| .normal| .ret=>True|_=>False)/\∃u H2,LP P T' H' fn u/\Sub H2 H'/\K u H2
theorem aA{f:Nat}{us:List AV}{K:AV->Hp->Prop}{fn:Func}(hf:P.funcs[f]? =some fn)(hname:(fn.name== "runtime.NumGoroutine")=false)(hb:fn.body=some c)(hn:us.length+(fn.ntmps-us.length)=n)(hd:aK H0 M)
 (h: @UW Zx P n (Ny P fn K) H0 c (Ck us 0) M):F P f us (aB H0 M) K:=by
 refine F.PY hf hname hb hn<|?_
 have:(λt=>us.getD t .any)=gz (Ck us 0):=by
  funext t
  unfold gz
  rw[zQ us 0 t (Nat.zero_le _)]
  simp[List.getD_eq_getElem?_getD]
 rw[this]
 exact h hd
theorem WR{K:AV->Hp->Prop}{fn:Func}(aL:List (Nat×Ob))(hr:aK H0 M->LP P (gz l) (aB H0 M) fn u)(ho:aL.Sublist M)(hk:aK H0 aL->K u (aB H0 aL)):UQ (Ny P fn K) H0 .normal l M:=λhd=>
 ⟨trivial,u,_,hr hd,gB hd (hd.sub ho) (λ_ hp=>ho.subset hp),hk (hd.sub ho)⟩
theorem bD{K:AV->Hp->Prop}{fn:Func}(aL:List (Nat×Ob))(hr:aK H0 M->LP P (gz l) (aB H0 M) fn u)(ho:aL.Sublist M)(hk:aK H0 aL->K u (aB H0 aL)):UQ (Ny P fn K) H0 .ret l M:=λhd=>
 ⟨trivial,u,_,hr hd,gB hd (hd.sub ho) (λ_ hp=>ho.subset hp),hk (hd.sub ho)⟩
theorem au{fn:Func}(hf:fn.results= #[.tmp t])(hx:look l t=some u):LP P (gz l) (aB H0 M) fn u:=by
 refine .inl ⟨_,hf,?_⟩
 have h1:gz l t=u:=by unfold gz;rw[hx];rfl
 rw[<-h1]
 exact .tmp t
theorem zR{fn:Func}(hf:fn.results= #[]):LP P (gz l) (aB H0 M) fn (.dH []):=by
 refine .inr ⟨[],[],hf,by simp,rfl,rfl,λj r v h=>by simp at h⟩
theorem di{fn:Func}{a:Nat}{ls:List AV}(hd:aK H0 M)(hf:fn.results= #[.cell a t])(hx:look l a=some (.ptr id 0))(h2:M[k]? =some (id,.box e ls))(hst:∃fs,P.underlying t=some (.struct fs))(hs:(P.info? t).map (·.size)=some ls.length):LP P (gz l) (aB H0 M) fn (.agg ls):=
 .inl ⟨_,hf,.cell a t id e ls (by unfold gz;rw[hx];rfl) (hd.at_ h2) (hst.elim λ_ h=>⟨_,h,rfl⟩) hs⟩
theorem ax{fn:Func}{r1 r2:ResultVar}{u1 u2:AV}(hf:fn.results= #[r1,r2])(h1:vB P (gz l) (aB H0 M) r1 u1)(h2:vB P (gz l) (aB H0 M) r2 u2):LP P (gz l) (aB H0 M) fn (.dH [u1,u2]):=by
 refine .inr ⟨[r1,r2],[u1,u2],hf,by simp,rfl,rfl,λj r v a b=>?_⟩
 cases j with
 |zero=>simp at a b;subst a b;exact h1
 |succ j=>cases j with
  |zero=>simp at a b;subst a b;exact h2
  |succ j=>simp at a
theorem Y(hx:look l t=some u):vB P (gz l) (aB H0 M) (.tmp t) u:=by
 have h1:gz l t=u:=by unfold gz;rw[hx];rfl
 rw[<-h1]
 exact .tmp t
theorem av{a:Nat}{ls:List AV}(hd:aK H0 M)(hx:look l a=some (.ptr id 0))(h2:M[k]? =some (id,.box e ls))(hst:∃fs,P.underlying t=some (.struct fs))(hs:(P.info? t).map (·.size)=some ls.length):vB P (gz l) (aB H0 M) (.cell a t) (.agg ls):=
 .cell a t id e ls (by unfold gz;rw[hx];rfl) (hd.at_ h2) (hst.elim λ_ h=>⟨_,h,rfl⟩) hs
end
end
section
variable [Rd]
def WS:List AV->Nat->Nat->Option (List AV)
 |_,0,0=>some []
 |x::r,0,n+1=>match WS r 0 n with
  |some r'=>some (x::r')
  |none=>none
 |[],0,_+1=>none
 |_::r,m+1,n=>WS r m n
 |[],_+1,_=>none
def y8:List AV->Nat->List AV->Option (List AV)
 |ls,0,[]=>some ls
 |_::r,0,u::us=>match y8 r 0 us with
  |some r'=>some (u::r')
  |none=>none
 |[],0,_::_=>none
 |x::r,m+1,us=>match y8 r m us with
  |some r'=>some (x::r')
  |none=>none
 |[],_+1,_=>none
theorem rV{α:Type}(x:α):∀(us r:List α) (m:Nat),gQ (x::r) (m+1) us=x::gQ r m us
 |[],r,m=>rfl
 |u::us,r,m=>by simp only[gQ,List.set_cons_succ];exact rV x us _ _
theorem pI:∀{ls:List AV} {off:Nat} {us rs:List AV},y8 ls off us=some rs->gQ ls off us=rs/\off+us.length<=ls.length
 |ls,0,[],rs,h=>by unfold y8 at h;cases h;simp[gQ]
 |x::r,0,u::us,rs,h=>by
  unfold y8 at h
  split at h
  ·rename_i r' h1
   cases h
   have:=pI h1
   simp only[gQ,List.set_cons_zero,List.length_cons]
   rw[rV,this.1]
   exact⟨rfl,by omega⟩
  ·cases h
 |[],0,_::_,rs,h=>by unfold y8 at h;cases h
 |x::r,m+1,us,rs,h=>by
  unfold y8 at h
  split at h
  ·rename_i r' h1
   cases h
   have:=pI h1
   rw[rV,this.1,List.length_cons]
   exact⟨rfl,by omega⟩
  ·cases h
 |[],_+1,us,rs,h=>by unfold y8 at h;cases h
def kD:List AV->Option (List (List AV))
 |[]=>some []
 |u::r=>match mr u,kD r with
  |some cs,some rs=>some (cs::rs)
  |_,_=>none
theorem l7:∀{us:List AV} {rs:List (List AV)},kD us=some rs->us.map flat=rs
 |[],rs,h=>by cases h;rfl
 |u::r,rs,h=>by
  unfold kD at h
  split at h
  ·rename_i cs rs' h1 h2
   cases h
   rw[List.map_cons,fe h1,l7 h2]
  ·cases h
def yF:List AV->List Nat->List (List AV)->Option (List AV)
 |ls,[],[]=>some ls
 |ls,off::gp,us::r=>match y8 ls off us with
  |some ls'=>yF ls' gp r
  |none=>none
 |_,_,_=>none
theorem Gi:∀{ls:List AV} {gp:List Nat} {jv:List (List AV)} {rs:List AV},yF ls gp jv=some rs->nI ls (gp.zip jv)=rs/\gp.length=jv.length/\∀(j:Nat) off us,gp[j]? =some off->jv[j]? =some us->off+us.length<=ls.length
 |ls,[],[],rs,h=>by cases h;exact⟨rfl,rfl,λj off us h=>by simp at h⟩
 |ls,[],_::_,rs,h=>by cases h
 |ls,_::_,[],rs,h=>by cases h
 |ls,off::gp,us::r,rs,h=>by
  unfold yF at h
  split at h
  ·rename_i ls' h1
   have h2:=pI h1
   have h3:=Gi h
   refine⟨by rw[List.zip_cons_cons];show nI (gQ ls off us) _=_;rw[h2.1];exact h3.1,by simp[h3.2.1],λj off' lu h4 h5=>?_⟩
   cases j with
   |zero=>simp at h4 h5;subst h4 h5;exact h2.2
   |succ j=>
    have:=h3.2.2 j off' lu (by simpa using h4) (by simpa using h5)
    rw[<-h2.1,fZ] at this
    exact this
  ·cases h
def vals:List Value->Option (List AV)
 |[]=>some []
 |x::r=>match vals r with
  |some rs=>some (.v x::rs)
  |none=>none
theorem rW:∀{zs:List Value} {rs:List AV},vals zs=some rs->zs.map .v=rs
 |[],rs,h=>by cases h;rfl
 |x::r,rs,h=>by
  unfold vals at h
  split at h
  ·rename_i rs' h1;cases h;rw[List.map_cons,rW h1]
  ·cases h
def jw(places:List (Nat×Nat)):List Nat->List Nat->List Nat->Bool
 |[],[],[]=>true
 |i::is,off::gp,s::ss=>places[i]? ==some (off,s)&&jw places is gp ss
 |_,_,_=>false
theorem vH{places:List (Nat×Nat)}:∀{is gp ss:List Nat},jw places is gp ss=true->∀(j:Nat) i off s,is[j]? =some i->gp[j]? =some off->ss[j]? =some s->places[i]? =some (off,s)
 |[],_,_,_,j,i,off,s,h1,_,_=>by simp at h1
 |_::_,[],_,h,_,_,_,_,_,_,_=>by simp[jw] at h
 |_::_,_::_,[],h,_,_,_,_,_,_,_=>by simp[jw] at h
 |i0::is,o0::gp,s0::ss,h,j,i,off,s,h1,h2,h3=>by
  simp only[jw,Bool.and_eq_true,beq_iff_eq] at h
  cases j with
  |zero=>simp at h1 h2 h3;subst h1 h2 h3;exact h.1
  |succ j=>exact vH h.2 j i off s (by simpa using h1) (by simpa using h2) (by simpa using h3)
section
variable {P:Program} {n:Nat} {ops:Array Oper} {Q:oo->Sl->Hp->Prop} {H0:Hp} {l:List (Nat×AV)} {M:List (Nat×Ob)} {rest:List Oper} {o:Oper} {c:Code}
variable {d:Nat} {x y:Operand} {u:AV} {t e sz b:Nat} {id k:Nat} {ob:Ob} {cells:List AV} {rows:List (List AV)}
theorem US.xS{off:Nat}{ls ls':List AV}{aL:List (Nat×Ob)}{bb:Bool}(hd:o.dst=none)(hg:o.guard=none)(ho:o.op=.store t x y)(ht:eQ P t=some (bb,sz))(hx:bA l x=some (.ptr id off))(h2:M[k]? =some (id,.box e ls))(hy:bA l y=some u)(hf:mr u=some cells)(hc:cells.all cK=true)
 (hl:cells.length=sz) (hr:y8 ls off cells=some ls') (jd:M.set k (id,.box e ls')=aL)
 (hk:US P n ops Q H0 rest l aL):US P n ops Q H0 (o::rest) l M:=
 US.lX hd hg ho hx h2 hy hf hc ht hl (by rw[<-hl];exact(pI hr).2) (pI hr).1 (by rw[jd];exact hk)
theorem US.alloc'{zs:List Value}{us:List AV}{z:Value}(hd:o.dst=some d)(hn:d<n)(hg:o.guard=none)(ho:o.op=.alloc e)(hz:(P.info? e).map (·.zero)=some (some z))(hzs:z.cells.toList=zs)(hc:zs.all (·.oneCell')=true)(hv:vals zs=some us)
 (hk:∀id,US P n ops Q H0 rest ((d,.ptr id 0)::l) ((id,.box e us)::M)):US P n ops Q H0 (o::rest) l M:=
 US.alloc hd hn hg ho hz (by rw[hzs];exact hc) (by rw[hzs];exact rW hv) hk
theorem US.lit{len:Nat}{parts:Array (Nat×Operand)}{us:List AV}{jv:List (List AV)}(hd:o.dst=some d)(hn:d<n)(hg:o.guard=none)(ho:o.op=.buildSlice t len parts)(ht:kC P t e sz b)(hl:len*sz<=2^24)
 (hp:parts.toList.map (·.1)=List.range len) (ha:gD l (parts.toList.map (·.2))=some us) (hf:kD us=some jv) (hc:∀cs∈jv,cs.all cK=true/\cs.length=sz)
 (hk:∀id,US P n ops Q H0 rest ((d,.own id 0 len sz)::l) ((id,.row e sz jv)::M)):US P n ops Q H0 (o::rest) l M:=
 US.step hd hn λaD=>by
  have e1:=iJ ha
  have e2:=l7 hf
  have e4:(parts.toList.map λp=>flat (ev (gz l) p.2))=jv:=by rw[<-e2,<-e1,List.map_map,List.map_map];rfl
  refine Does.buildSlice hg ho ht hl hp (λp hp'=>hc _ (by rw[<-e4];exact List.mem_map_of_mem (f:=λp=>flat (ev (gz l) p.2)) hp')) λid hid=>⟨(id,.row e sz jv)::M,by rw[e4];rfl,.cons hid aD,hk id⟩
theorem US.tX{len:Nat}{parts:Array (Nat×Operand)}{us:List AV}{jv:List (List AV)}(hd:o.dst=some d)(hn:d<n)(hg:o.guard=none)(ho:o.op=.buildSlice t len parts)(ht:kC P t e sz b)(hl:len*sz<=2^24)
 (hp:parts.toList.map (·.1)=List.range len) (ha:gD l (parts.toList.map (·.2))=some us) (hf:kD us=some jv) (hc:∀cs∈jv,cs.all cK=true/\cs.length=sz)
 (hk:US P n ops Q H0 rest ((d,.sl jv)::l) M):US P n ops Q H0 (o::rest) l M:=
 US.step hd hn λaD=>by
  have e1:=iJ ha
  have e2:=l7 hf
  have e4:(parts.toList.map λp=>flat (ev (gz l) p.2))=jv:=by rw[<-e2,<-e1,List.map_map,List.map_map];rfl
  refine Does.tH hg ho ht hl hp (λp hp'=>hc _ (by rw[<-e4];exact List.mem_map_of_mem (f:=λp=>flat (ev (gz l) p.2)) hp')) ⟨M,rfl,aD,by rw[e4];exact hk⟩
theorem US.add{t2:Nat}{ki:IntKind}{a c r:Int}(hd:o.dst=some d)(hn:d<n)(hg:o.guard=none)(ho:o.op=.binOp .add t x y t2)(hx:bA l x=some (.v (.int ki a)))(hy:bA l y=some (.v (.int ki c)))(hr:ki.wrap (a+c)=r)
 (hk:US P n ops Q H0 rest ((d,.v (.int ki r))::l) M):US P n ops Q H0 (o::rest) l M:=
 US.aG hd hn hg ho hx hy U (by rw[hr];exact hk)
theorem US.mul{t2:Nat}{ki:IntKind}{a c r:Int}(hd:o.dst=some d)(hn:d<n)(hg:o.guard=none)(ho:o.op=.binOp .mul t x y t2)(hx:bA l x=some (.v (.int ki a)))(hy:bA l y=some (.v (.int ki c)))(hr:ki.wrap (a*c)=r)
 (hk:US P n ops Q H0 rest ((d,.v (.int ki r))::l) M):US P n ops Q H0 (o::rest) l M:=
 US.aG hd hn hg ho hx hy U (by rw[hr];exact hk)
theorem US.conv{s2:Nat}{ki kj:IntKind}{a r:Int}(hd:o.dst=some d)(hn:d<n)(hg:o.guard=none)(ho:o.op=.convert t s2 x)(hs:(P.underlying t).isSome=true)(ht:P.underlying s2=some (.int kj))(hx:bA l x=some (.v (.int ki a)))(hr:kj.wrap a=r)
 (hk:US P n ops Q H0 rest ((d,.v (.int kj r))::l) M):US P n ops Q H0 (o::rest) l M:=
 US.vF hd hn hg ho hs ht hx (by rw[hr];exact hk)
theorem P7{E:Nu}{a:Act}{w:World}(hz:0<sz)(e:Nat)(hl:look l d=some (.v (.slice none 0 0)))(hi:Inv E n (gz l) (aB H0 M) a w):
 ∃id,aB H0 M id=none/\Inv E n (gz ((d,.own id 0 0 sz)::l)) (aB H0 ((id,.row e sz [])::M)) a w:=by
 obtain⟨ρ,h1,h2,h3⟩:=hi.rel
 obtain⟨id,ρ',e1,e2,e3,e4,e5⟩:=h1.new (w':=w) (.slice none 0 0) (.row e sz []) (Below.refl _ _) (λk hk=>by cases hk) (λρ' H' e'=>⟨hz,[],⟨by simp,.inl ⟨rfl,rfl⟩⟩,by simp,dW⟩)
 refine⟨id,e2,hi.size,hi.defers,ρ',e4,h2.trans e5,λt=>?_⟩
 have h4:=e5.rep (h3 t)
 unfold gz at h4⊢
 simp only[look]
 by_cases ht:t=d
 ·subst ht
  rw[hl] at h4
  rw[if_pos U]
  rw[aP h4]
  exact .lQ id sz e3
 ·rw[if_neg ht];exact h4
theorem US.DZ(d e sz:Nat)(hz:0<sz)(hl:look l d=some (.v (.slice none 0 0)))(hk:∀id,US P n ops Q H0 rest ((d,.own id 0 0 sz)::l) ((id,.row e sz [])::M)):US P n ops Q H0 rest l M:=by
 intro hd E a w hi
 obtain⟨id,h1,h2⟩:=P7 hz e hl hi
 exact hk id (.cons h1 hd) E a w h2
theorem US.freeze(d:Nat){off len:Nat}(k:Nat)(hl:look l d=some (.own id off len sz))(h2:M[k]? =some (id,.row e sz rows))(hle:off+len<=rows.length)(hk:US P n ops Q H0 rest ((d,.sl ((rows.drop off).take len))::l) (M.eraseIdx k)):US P n ops Q H0 rest l M:=by
 intro hd
 obtain⟨e1,e2⟩:=hd.kill h2
 have hs:Sub (aB H0 (M.eraseIdx k)) (aB H0 M):=gB hd e2 (λp hp=>List.mem_of_mem_eraseIdx hp)
 refine qR.turn hs (λt=>?_) (hk e2)
 unfold gz
 simp only[look]
 by_cases ht:t=d
 ·subst ht
  rw[hl,if_pos U]
  exact dw.own hs (hd.at_ h2) (by rw[<-e1];simp) hle U (λi cs cs' h1 h2=>by
   rw[h1] at h2;cases h2
   exact⟨rfl,λj u u' h3 h4=>by rw[h3] at h4;cases h4;exact dw.drop hs u⟩)
 ·rw[if_neg ht];exact dw.drop hs _
theorem F.post{f:Nat}{us:List AV}{H:Hp}{K K':AV->Hp->Prop}(h:F P f us H K)(hk:∀u H1,K u H1->∃u' H2,Sub H2 H1/\dw H1 u H2 u'/\K' u' H2):F P f us H K':=F.turn h hk
theorem tY{α:Type}:∀(us ls:List α),us.length=ls.length->gQ ls 0 us=us
 |[],[],_=>rfl
 |u::us,l::ls,h=>by
  show gQ ((l::ls).set 0 u) 1 us=_
  rw[List.set_cons_zero,rV,tY us ls (by simpa using h)]
 |[],_::_,h=>by simp at h
 |_::_,[],h=>by simp at h
theorem US.oQ{ls:List AV}(hd:o.dst=some d)(hn:d<n)(hg:o.guard=none)(ho:o.op=.load t x)(ht:eQ P t=some (true,sz))(hx:bA l x=some (.ptr id 0))(h2:M[k]? =some (id,.box e ls))(hl:ls.length=sz)
 (hk:US P n ops Q H0 rest ((d,.agg ls)::l) M):US P n ops Q H0 (o::rest) l M:=
 US.vC hd hn hg ho hx h2 ht U (by rw[<-hl];simp[cellsOf]) (by simp[cellsOf,hl]) hk
theorem US.kW{ls:List AV}{aL:List (Nat×Ob)}{bb:Bool}(hd:o.dst=none)(hg:o.guard=none)(ho:o.op=.store t x y)(ht:eQ P t=some (bb,sz))(hx:bA l x=some (.ptr id 0))(h2:M[k]? =some (id,.box e ls))(hls:ls.length=sz)(hy:bA l y=some u)(hf:mr u=some cells)(hc:cells.all cK=true)
 (hl:cells.length=sz) (jd:M.set k (id,.box e cells)=aL)
 (hk:US P n ops Q H0 rest l aL):US P n ops Q H0 (o::rest) l M:=
 US.lX hd hg ho hx h2 hy hf hc ht hl (by rw[hls];omega) (tY cells ls (by rw[hl,hls])) (by rw[jd];exact hk)
end
end
end Go.gW
end
