/- A part of the proof. -/
import Derived.Test.YtonpfomjoiaacaaGreatDoorMw07
import Derived.IntWalk
import Derived.Test.YtonpfomjoiaacaaGreatDoorChecked
set_option maxRecDepth 100000
set_option maxHeartbeats 4000000
set_option linter.unusedSectionVars false
set_option linter.unusedVariables false
set_option linter.unusedSimpArgs false
section
namespace Go.iG
open Go Go.RowKit
section
variable [Rd]
section
variable {P:Program} {n:Nat} {ops:Array Oper} {Q:sN->Sl->Hp->Prop} {H0:Hp} {l:List (Nat×AV)} {I aM:List (Nat×Ob)} {rest:List Oper} {c c1 c2:Code}
variable {dst:Option Nat} {ty:TypeId} {ps:String} {af:Array Edge} {op:Op} {o:Oper} {x y z v:Operand} {u r:AV} {t t2 e sz b:Nat} {id k off d f g:Nat} {ob:Ob} {cells ls rs cs us:List AV} {rows rws news:List (List AV)} {lo hi:Option Operand}
variable {K:AV->List (Nat×Ob)->Prop} {ki kj km:IntKind} {i a a':Int} {p q:ByteArray} {gd:Option (Nat×Bool)}
theorem S.qu(h:QS P n ops H0 ⟨some d,op,ty,ps,af,gd⟩ l I u)(hk:US P n ops Q H0 rest ((d,u)::l) I)(hn:d<n:=by decide):US P n ops Q H0 (⟨some d,op,ty,ps,af,gd⟩::rest) l I:=US.qs U hn h hk
theorem S.dd(h:DS P n ops H0 ⟨some d,op,ty,ps,af,gd⟩ l I (λu aM=>US P n ops Q H0 rest ((d,u)::l) aM))(hn:d<n:=by decide):US P n ops Q H0 (⟨some d,op,ty,ps,af,gd⟩::rest) l I:=US.step U hn h
theorem S.s(h:DS P n ops H0 ⟨none,op,ty,ps,af,gd⟩ l I (λ_ aM=>US P n ops Q H0 rest l aM)):US P n ops Q H0 (⟨none,op,ty,ps,af,gd⟩::rest) l I:=US.step0 U h
theorem Z.on{bb:Bool}(h:QS P n ops H0 ⟨dst,op,ty,ps,af,none⟩ l I u)(hdg:(ops[g]?).bind (·.dst)=some d:=by rfl)(hdn:d<n:=by decide)(hT:look l d=some (.v (.bool bb)):=by rfl):QS P n ops H0 ⟨dst,op,ty,ps,af,some (g,bb)⟩ l I u:=QS.on U hdg hdn hT h
theorem Z.of{bb b2:Bool}(hdg:(ops[g]?).bind (·.dst)=some d:=by rfl)(hT:look l d=some (.v (.bool b2)):=by rfl)(hb:b2=!bb:=by rfl):QS P n ops H0 ⟨dst,op,ty,ps,af,some (g,bb)⟩ l I (.v undef):=QS.EK U hdg hT hb
theorem Z.UF{bb:Bool}(hdg:(ops[g]?).bind (·.dst)=some d:=by rfl)(hT:look l d=some (.v undef):=by rfl):QS P n ops H0 ⟨dst,op,ty,ps,af,some (g,bb)⟩ l I (.v undef):=QS.yK U hdg hT
theorem D.on{bb:Bool}(h:DS P n ops H0 ⟨dst,op,ty,ps,af,none⟩ l I K)(hdg:(ops[g]?).bind (·.dst)=some d:=by rfl)(hdn:d<n:=by decide)(hT:look l d=some (.v (.bool bb)):=by rfl):DS P n ops H0 ⟨dst,op,ty,ps,af,some (g,bb)⟩ l I K:=DS.on U hdg hdn hT h
theorem Z.mv(hx:aW l x=some u):QS P n ops H0 ⟨dst,.move x,ty,ps,af,none⟩ l I u:=QS.move U U hx
theorem Z.as(hx:aW l x=some u):QS P n ops H0 ⟨dst,.assign x,ty,ps,af,none⟩ l I u:=QS.assign U U hx
theorem Z.bW(k:Nat)(ht:eQ P t=some (true,sz))(hx:aW l x=some (.ptr id 0))(h2:I[k]? =some (id,.box e ls))(hl:ls.length=sz):QS P n ops H0 ⟨dst,.load t x,ty,ps,af,none⟩ l I (.agg ls):=QS.dV U U ht hx h2 hl
theorem Z.dM(k:Nat)(ht:eQ P t=some (false,sz))(hx:aW l x=some (.ptr id off))(h2:I[k]? =some (id,.box e ls))(hr:ls[off]? =some u):QS P n ops H0 ⟨dst,.load t x,ty,ps,af,none⟩ l I u:=QS.aJ U U ht hx h2 hr
theorem Z.SN(k:Nat)(ht:eQ P t=some (true,sz))(hx:aW l x=some (.ptr id off))(h2:I[k]? =some (id,.box e ls))(hr:EM ls off sz=some rs):QS P n ops H0 ⟨dst,.load t x,ty,ps,af,none⟩ l I (.agg rs):=QS.nz U U ht hx h2 hr
theorem Z.IG(ht:eQ P t=some (true,sz))(hx:aW l x=some (.rp cells))(hl:cells.length=sz):QS P n ops H0 ⟨dst,.load t x,ty,ps,af,none⟩ l I (.agg cells):=QS.gp U U hx ht hl
theorem Z.fO(ht:eQ P t=some (false,sz))(hx:aW l x=some (.rp (u::rs))):QS P n ops H0 ⟨dst,.load t x,ty,ps,af,none⟩ l I u:=QS.bI U U hx ht
theorem Z.ldo(h2:H0 id=some (.box e ls))(ht:eQ P t=some (false,sz))(hx:aW l x=some (.ptr id off))(hr:ls[off]? =some u):QS P n ops H0 ⟨dst,.load t x,ty,ps,af,none⟩ l I u:=QS.ld_old U U ht hx h2 hr
theorem Z.fa{fl off':Nat}(h:dP P t fl=some off')(hx:aW l x=some (.ptr id off)):QS P n ops H0 ⟨dst,.fieldAddr t x fl,ty,ps,af,none⟩ l I (.ptr id (off+off')):=QS.fieldAddr U U hx h
theorem Z.fc{fl off':Nat}(h:uj P t fl=some (off',false,sz))(hx:aW l x=some (.agg ls))(hu:ls[off']? =some u):QS P n ops H0 ⟨dst,.field t x fl,ty,ps,af,none⟩ l I u:=QS.yU U U hx h hu
theorem Z.ia(ht:lu P t=some (e,sz,b))(hx:aW l x=some (.sl rows))(hy:aW l y=some (.v (.int ki i)))(h0:0<=i)(h1:rows[i.toNat]? =some cs)(hs:cs.length=sz):QS P n ops H0 ⟨dst,.indexAddr t x y,ty,ps,af,none⟩ l I (.rp cs):=QS.bM U U ht hx hy h0 h1 hs
theorem Z.io{off len:Nat}(ht:lu P t=some (e,sz,b))(hx:aW l x=some (.own id off len sz))(hy:aW l y=some (.v (.int ki i)))(h0:0<=i)(h1:i<len):QS P n ops H0 ⟨dst,.indexAddr t x y,ty,ps,af,none⟩ l I (.ptr id ((off+i.toNat)*sz)):=QS.sG U U ht hx hy h0 h1
def eO(s:ByteArray)(i:Int):Int:=if h:i.toNat<s.size then((s[i.toNat]'h).toNat:Int) else 0
theorem ql(s:ByteArray)(i:Int):0<=eO s i/\eO s i<256:=by
 unfold eO
 split
 ·have:=(s[i.toNat]).toNat_lt;omega
 ·omega
theorem Z.is(ht:P.underlying t=some .string)(hx:aW l x=some (.v (.string p)))(hy:aW l y=some (.v (.int ki i)))(h0:0<=i)(h1:i<p.size):QS P n ops H0 ⟨dst,.index t x y,ty,ps,af,none⟩ l I (.v (.int .u8 (eO p i))):=
 QS.bD U U ht hx hy h0 h1 (by unfold eO;rw[dif_pos (by omega)])
theorem Z.Xl{m m':Nat}(ht:lu P t=some (e,sz,b))(hx:aW l x=some (.sl rows))(hs:∀cs∈rows,cs.length=sz)(hb:mD l rows.length lo hi m m')(h1:m<=m')(h2:m'<=rows.length)(hr:(rows.take m').drop m=rws):QS P n ops H0 ⟨dst,.slice t x lo hi none,ty,ps,af,none⟩ l I (.sl rws):=QS.qd U U ht hx hs hb h1 h2 hr
theorem Z.Ee{m m' off len:Nat}(ht:lu P t=some (e,sz,b))(hx:aW l x=some (.own id off len sz))(hb:mD l len lo hi m m')(h1:m<=m')(h2:m'<=len):QS P n ops H0 ⟨dst,.slice t x lo hi none,ty,ps,af,none⟩ l I (.own id (off+m) (m'-m) sz):=QS.kR U U ht hx hb h1 h2
theorem Z.slt{m m':Nat}(ht:P.underlying t=some .string)(hx:aW l x=some (.v (.string p)))(hb:mD l p.size lo hi m m')(h1:m<=m')(h2:m'<=p.size):QS P n ops H0 ⟨dst,.slice t x lo hi none,ty,ps,af,none⟩ l I (.v (.string (p.extract m m'))):=QS.pK U U ht hx hb h1 h2
theorem Z.fM(ht:lu P t=some (e,sz,b))(hx:aW l x=some (.sl rows)):QS P n ops H0 ⟨dst,.call {callee:=.builtin .len,args:= #[x],argTypes:= #[t]},ty,ps,af,none⟩ l I (.v (.int .i64 (rows.length:Int))):=QS.gq U U ht hx
theorem Z.OX{off len:Nat}(ht:lu P t=some (e,sz,b))(hx:aW l x=some (.own id off len sz)):QS P n ops H0 ⟨dst,.call {callee:=.builtin .len,args:= #[x],argTypes:= #[t]},ty,ps,af,none⟩ l I (.v (.int .i64 (len:Int))):=QS.iQ U U ht hx
theorem Z.lnn(ht:lu P t=some (e,sz,b))(hx:aW l x=some (.v (.slice none 0 0))):QS P n ops H0 ⟨dst,.call {callee:=.builtin .len,args:= #[x],argTypes:= #[t]},ty,ps,af,none⟩ l I (.v (.int .i64 0)):=QS.len_nil U U ht hx
theorem Z.wm(ht:P.underlying t=some .string)(hx:aW l x=some (.v (.string p))):QS P n ops H0 ⟨dst,.call {callee:=.builtin .len,args:= #[x],argTypes:= #[t]},ty,ps,af,none⟩ l I (.v (.int .i64 (p.size:Int))):=QS.rE U U ht hx
theorem Z.bi{op:BinOp}{vr:Value}(hx:aW l x=some (.v (.int ki a)))(hy:aW l y=some (.v (.int ki a')))(h:eT op ki a a'=some vr):QS P n ops H0 ⟨dst,.binOp op t x y t2,ty,ps,af,none⟩ l I (.v vr):=QS.aA U U hx hy h
theorem Z.bs{op:BinOp}{bb:Bool}(hx:aW l x=some (.v (.string p)))(hy:aW l y=some (.v (.string q)))(h:fe op p q=some bb):QS P n ops H0 ⟨dst,.binOp op t x y t2,ty,ps,af,none⟩ l I (.v (.bool bb)):=QS.jl U U hx hy h
theorem Z.add{r:Int}(hx:aW l x=some (.v (.int ki a)))(hy:aW l y=some (.v (.int ki a')))(hr:ki.wrap (a+a')=r):QS P n ops H0 ⟨dst,.binOp .add t x y t2,ty,ps,af,none⟩ l I (.v (.int ki r)):=QS.add U U hx hy hr
theorem Z.sub{r:Int}(hx:aW l x=some (.v (.int ki a)))(hy:aW l y=some (.v (.int ki a')))(hr:ki.wrap (a-a')=r):QS P n ops H0 ⟨dst,.binOp .sub t x y t2,ty,ps,af,none⟩ l I (.v (.int ki r)):=QS.sub U U hx hy hr
theorem Z.mul{r:Int}(hx:aW l x=some (.v (.int ki a)))(hy:aW l y=some (.v (.int ki a')))(hr:ki.wrap (a*a')=r):QS P n ops H0 ⟨dst,.binOp .mul t x y t2,ty,ps,af,none⟩ l I (.v (.int ki r)):=QS.mul U U hx hy hr
theorem Z.cat(hx:aW l x=some (.v (.string p)))(hy:aW l y=some (.v (.string q)))(h:p.size+q.size<=9223372036854775807):QS P n ops H0 ⟨dst,.binOp .add t x y t2,ty,ps,af,none⟩ l I (.v (.string (p++q))):=QS.JM U U hx hy h
theorem Z.beq{m m':Bool}(ht:P.underlying t=some .bool)(hx:aW l x=some (.v (.bool m)))(hy:aW l y=some (.v (.bool m'))):QS P n ops H0 ⟨dst,.binOp .eql t x y t2,ty,ps,af,none⟩ l I (.v (.bool (m==m'))):=QS.U1 U U ht hx hy
theorem Z.shl{r:Int}(hx:aW l x=some (.v (.int ki a)))(hy:aW l y=some (.v (.int kj a')))(hb:0<=a')(hr:ki.wrap (a*2^min a'.toNat ki.bits)=r):QS P n ops H0 ⟨dst,.binOp .shl t x y t2,ty,ps,af,none⟩ l I (.v (.int ki r)):=λay=>Does.Xv U U (aG hx) (aG hy) hb ⟨by rw[hr],rfl⟩
theorem Z.shr{r:Int}(hx:aW l x=some (.v (.int ki a)))(hy:aW l y=some (.v (.int kj a')))(hb:0<=a')(hr:a.fdiv (2^min a'.toNat ki.bits)=r):QS P n ops H0 ⟨dst,.binOp .shr t x y t2,ty,ps,af,none⟩ l I (.v (.int ki r)):=λay=>Does.xM U U (aG hx) (aG hy) hb ⟨by rw[hr],rfl⟩
theorem Z.not{m:Bool}(hx:aW l x=some (.v (.bool m))):QS P n ops H0 ⟨dst,.unOp .not t x,ty,ps,af,none⟩ l I (.v (.bool (!m))):=QS.not U U hx
theorem Z.neg{r:Int}(hx:aW l x=some (.v (.int ki a)))(hr:ki.wrap (0-a)=r):QS P n ops H0 ⟨dst,.unOp .neg t x,ty,ps,af,none⟩ l I (.v (.int ki r)):=λay=>Does.neg U U (aG hx) ⟨by rw[hr],rfl⟩
theorem Z.cv{r:Int}(ht:P.underlying t2=some (.int kj))(hx:aW l x=some (.v (.int ki a)))(hr:kj.wrap a=r)(hs:(P.underlying t).isSome=true):QS P n ops H0 ⟨dst,.convert t t2 x,ty,ps,af,none⟩ l I (.v (.int kj r)):=QS.conv U U hs ht hx hr
theorem Z.min{at_:Array TypeId}(hx:aW l x=some (.v (.int ki a)))(hy:aW l y=some (.v (.int kj a'))):QS P n ops H0 ⟨dst,.call {callee:=.builtin .min,args:= #[x,y],argTypes:=at_},ty,ps,af,none⟩ l I (.v (.int ki (if a'<a then a' else a))):=QS.min2 U U hx hy
theorem Z.ex{m:Nat}(hx:aW l x=some (.kX us))(hu:us[m]? =some u):QS P n ops H0 ⟨dst,.extract x m,ty,ps,af,none⟩ l I u:=QS.extract U U hx hu
theorem Z.pick{bb:Bool}{cc:Operand}(hc:aW l cc=some (.v (.bool bb)))(hr:(if bb then aW l x else aW l y)=some r):QS P n ops H0 ⟨dst,.pick cc x y,ty,ps,af,none⟩ l I r:=QS.pick U U hc hr
theorem Z.mf{df:Array Operand}(ha:iM l df.toList=some us):QS P n ops H0 ⟨dst,.makeFunc (.func f) #[] df,ty,ps,af,none⟩ l I (.iF f us):=λay=>Does.makeFunc U U ⟨by rw[j4 ha],rfl⟩
theorem Z.bd{parts:Array (Nat×Operand)}{zs:List Value}{places:List (Nat×Nat)}{MU rs':List AV}{ky:List (List AV)}(iC:List Nat)(ht:oJ P t=some (zs,places))(ha:iM l (parts.toList.map (·.2))=some us)(hf:mF us=some ky)(hc:(ky.all λcs=>cs.all aT)=true)(hv:vals zs=some MU)(hr:Ar MU iC ky=some rs)(hu:lY rs=rs')
 (hz:zs.all (·.oneCell')=true:=by rfl) (hp:lv places (parts.toList.map (·.1)) iC (ky.map (·.length))=true:=by rfl):QS P n ops H0 ⟨dst,.build t parts,ty,ps,af,none⟩ l I (.agg rs'):=QS.Ca iC U U ht hz hv ha hf hc hp hr hu
theorem Z.bdp{parts:Array (Nat×Operand)}{zs:List Value}{places:List (Nat×Nat)}{MU:List AV}{ky:List (List AV)}(iC:List Nat)(ht:oJ P t=some (zs,places))(ha:iM l (parts.toList.map (·.2))=some us)(hf:mF us=some ky)(hc:(ky.all λcs=>cs.all aT)=true)(hv:vals zs=some MU)(hr:Ar MU iC ky=some rs)
 (hz:zs.all (·.oneCell')=true:=by rfl) (hp:lv places (parts.toList.map (·.1)) iC (ky.map (·.length))=true:=by rfl):QS P n ops H0 ⟨dst,.build t parts,ty,ps,af,none⟩ l I (.agg rs):=QS.build iC U U ht hz hv ha hf hc hp hr
theorem Z.bl{len:Nat}{parts:Array (Nat×Operand)}{ky:List (List AV)}(ht:kg P t e sz b)(ha:iM l (parts.toList.map (·.2))=some us)(hf:mF us=some ky)(hc:∀cs∈ky,cs.all aT=true/\cs.length=sz)(hl:len*sz<=2^24:=by decide)(hp:parts.toList.map (·.1)=List.range len:=by rfl):QS P n ops H0 ⟨dst,.buildSlice t len parts,ty,ps,af,none⟩ l I (.sl ky):=QS.qh U U ht hl hp ha hf hc
theorem Z.call{cc:Operand}{args:Array Operand}{at_:Array TypeId}{df:List AV}(hc:aW l cc=some (.iF f df))(ha:iM l args.toList=some us)(h:∀H,au P f (us++df) H (bB H r)):QS P n ops H0 ⟨dst,.call {callee:=.value cc,args:=args,argTypes:=at_},ty,ps,af,none⟩ l I r:=QS.call U U hc ha λ_=>h _
theorem Z.oV{cc:Operand}{args:Array Operand}{at_:Array TypeId}{df:List AV}(hc:aW l cc=some (.iF f df))(ha:iM l args.toList=some us)(h:aP H0 I->au P f (us++df) (aD H0 I) (bB (aD H0 I) r)):QS P n ops H0 ⟨dst,.call {callee:=.value cc,args:=args,argTypes:=at_},ty,ps,af,none⟩ l I r:=QS.call U U hc ha h
theorem Z.eq{u':AV}(h:QS P n ops H0 o l I u)(he:u=u'):QS P n ops H0 o l I u':=he▸h
theorem Z.tT{bb:Bool}(h:QS P n ops H0 o l I (.v (.bool bb)))(he:bb=true):QS P n ops H0 o l I (.v (.bool true)):=he▸h
theorem Z.tF{bb:Bool}(h:QS P n ops H0 o l I (.v (.bool bb)))(he:bb=false):QS P n ops H0 o l I (.v (.bool false)):=he▸h
theorem D.qu(h:QS P n ops H0 o l I u)(hk:K u I):DS P n ops H0 o l I K:=DS.qs h hk
theorem D.box(hx:aW l x=some u)(hf:qf u=some cells)(hc:cells.all aT=true)(hk:∀id,K (.ptr id 0) ((id,.box e cells)::I)):DS P n ops H0 ⟨dst,.box e x,ty,ps,af,none⟩ l I K:=
 λay=>Does.box U U (by rw[aG hx,fU hf];exact hc) λid hid=>⟨(id,.box e cells)::I,by rw[aG hx,fU hf];rfl,.cons hid ay,hk id⟩
theorem D.al{zs:List Value}{ni:List AV}{zv:Value}(hz:(P.info? e).map (·.zero)=some (some zv))(hzs:zv.cells.toList=zs)(hv:vals zs=some us)(hu:lY us=ni)(hk:∀id,K (.ptr id 0) ((id,.box e ni)::I))(hc:zs.all (·.oneCell')=true:=by rfl):DS P n ops H0 ⟨dst,.alloc e,ty,ps,af,none⟩ l I K:=by
 subst hzs hu
 intro hd a w ρ h1 hdf hr hT N Qc hN
 refine Does.alloc (P:=P) (n:=n) (ops:=ops) (T:=gD l) (H:=aD H0 I) (K:=λu H'=>∃id,u=.ptr id 0/\aD H0 I id=none/\H'=aD H0 ((id,.box e us)::I)) U U hz hc (λid hid=>⟨id,rfl,hid,by rw[<-rG hv];rfl⟩) a w ρ h1 hdf hr hT N Qc ?_
 rintro x w' ρ' u H' q1 q2 q3 ⟨id,rfl,hid,rfl⟩
 have hd2:aP H0 ((id,.box e us)::I):=.cons hid hd
 have hi:Inv ⟨ρ',aD H0 ((id,.box e us)::I),w'⟩ (a.tmps.push x).size (λt=>if t<a.tmps.size then gD l t else if t=a.tmps.size then .ptr id 0 else .any) (aD H0 ((id,.box e us)::I)) {tmps:=a.tmps.push x,defers:=[]} w':=by
  refine⟨rfl,.none,ρ',q1,Ext.refl _ _ _,λt=>?_⟩
  by_cases ht:t<a.tmps.size
  ·rw[if_pos ht]
   have:=q2.rep (hT t)
   have e1:(a.tmps.push x).getD t undef=a.tmps.getD t undef:=by
    simp[Array.getD_eq_getD_getElem?,Array.getElem?_push,Nat.ne_of_lt ht]
   show eF _ _ _ _ ((a.tmps.push x).getD t undef)
   rw[e1];exact this
  ·rw[if_neg ht]
   by_cases ht2:t=a.tmps.size
   ·rw[if_pos ht2]
    have e1:(a.tmps.push x).getD t undef=x:=by subst ht2;simp[Array.getD_eq_getD_getElem?]
    show eF _ _ _ _ ((a.tmps.push x).getD t undef)
    rw[e1];exact q3
   ·rw[if_neg ht2];exact .any _
 obtain⟨UK,e1,e2,e3⟩:=(MX (k:=0) hd2 rfl hi).rel
 have e4:=e3 a.tmps.size
 rw[if_neg (by omega),if_pos U] at e4
 have e5:(a.tmps.push x).getD a.tmps.size undef=x:=by simp[Array.getD_eq_getD_getElem?]
 have e6:eF (bF UK (aD H0 ((id,.box e (lY us))::I))) UK w' (.ptr id 0) x:=by rw[<-e5];exact e4
 have hd3:aP H0 ((id,.box e (lY us))::I):=.cons hid hd
 exact hN x w' UK (.ptr id 0) (aD H0 ((id,.box e (lY us))::I)) e1 (q2.trans e2) e6 ⟨_,rfl,hd3,hk id⟩
theorem D.lit{len:Nat}{parts:Array (Nat×Operand)}{ky:List (List AV)}(ht:kg P t e sz b)(ha:iM l (parts.toList.map (·.2))=some us)(hf:mF us=some ky)(hc:∀cs∈ky,cs.all aT=true/\cs.length=sz)
 (hk:∀id,K (.own id 0 len sz) ((id,.row e sz ky)::I)) (hl:len*sz<=2^24:=by decide) (hp:parts.toList.map (·.1)=List.range len:=by rfl):DS P n ops H0 ⟨dst,.buildSlice t len parts,ty,ps,af,none⟩ l I K:=
 λay=>by
  have e1:=j4 ha
  have e2:=ny hf
  have e4:(parts.toList.map λp=>flat (ev (gD l) p.2))=ky:=by rw[<-e2,<-e1,List.map_map,List.map_map];rfl
  refine Does.buildSlice U U ht hl hp (λp hp'=>hc _ (by rw[<-e4];exact List.mem_map_of_mem (f:=λp=>flat (ev (gD l) p.2)) hp')) λid hid=>⟨(id,.row e sz ky)::I,by rw[e4];rfl,.cons hid ay,hk id⟩
theorem D.st{bb:Bool}(k:Nat)(ht:eQ P t=some (bb,sz))(hx:aW l x=some (.ptr id off))(h2:I[k]? =some (id,.box e ls))(hy:aW l y=some u)(hf:qf u=some cells)(hc:cells.all aT=true)(hl:cells.length=sz)(hr:wD ls off cells=some rs)(ji:I.set k (id,.box e rs)=aM)(hk:∀u,K u aM):DS P n ops H0 ⟨dst,.store t x y,ty,ps,af,none⟩ l I K:=DS.gu U U ht hx h2 hy hf hc hl hr ji hk
theorem D.vW{bb:Bool}(k:Nat)(ht:eQ P t=some (bb,sz))(hx:aW l x=some (.ptr id 0))(h2:I[k]? =some (id,.box e ls))(hy:aW l y=some u)(hf:qf u=some cells)(hc:cells.all aT=true)(hl:cells.length=sz)(hls:ls.length=sz)(ji:I.set k (id,.box e cells)=aM)(hk:∀u,K u aM):DS P n ops H0 ⟨dst,.store t x y,ty,ps,af,none⟩ l I K:=DS.dw U U ht hx h2 hls hy hf hc hl ji hk
theorem D.str{m:Nat}{bb:Bool}(k:Nat)(ht:eQ P t=some (bb,sz))(hx:aW l x=some (.ptr id off))(h2:I[k]? =some (id,.row e sz rows))(hoff:off=m*sz)(hi:m<rows.length)(hy:aW l y=some u)(hf:qf u=some cells)(hc:cells.all aT=true)(hl:cells.length=sz)(hrows:∀cs∈rows,cs.length=sz)
 (hk:∀u,K u (I.set k (id,.row e sz (rows.set m cells)))) (hz:0<sz:=by decide):DS P n ops H0 ⟨dst,.store t x y,ty,ps,af,none⟩ l I K:=DS.BQ U U hx h2 hoff hi hy hf hc ht hl hz hrows hk
theorem D.ap{s:Operand}{len:Nat}(k:Nat)(ht:kg P t e sz b)(hs:aW l s=some (.own id 0 len sz))(h2:I[k]? =some (id,.row e sz rows))(hle:len<=rows.length)(hx:aW l x=some u)(hsrc:uo I sz u news)(hb:(len+news.length)*b<=140737488355328)(hr:rows.take len++news=rws)
 (hk:∀id',K (.own id' 0 (len+news.length) sz) ((id',.row e sz rws)::I.eraseIdx k)):DS P n ops H0 ⟨dst,.call {callee:=.builtin .append,args:= #[s,x],argTypes:= #[t,t]},ty,ps,af,none⟩ l I K:=DS.iI U U ht hs h2 hle hx hsrc hb hr hk
theorem D.apn{s:Operand}(ht:kg P t e sz b)(hs:aW l s=some (.v (.slice none 0 0)))(hx:aW l x=some u)(hsrc:uo I sz u news)(hb:news.length*b<=140737488355328)
 (hk:∀id',K (.own id' 0 news.length sz) ((id',.row e sz news)::I)):DS P n ops H0 ⟨dst,.call {callee:=.builtin .append,args:= #[s,x],argTypes:= #[t,t]},ty,ps,af,none⟩ l I K:=DS.append_nil U U ht hs hx hsrc hb hk
theorem D.rg(ht:P.underlying t=some .string)(hx:aW l x=some (.v (.string p)))(hk:∀id,K (.ptr id 0) ((id,.iter p 0)::I)):DS P n ops H0 ⟨dst,.range t x,ty,ps,af,none⟩ l I K:=
 λay=>Does.SK U U ht (aG hx) λid hid=>⟨(id,.iter p 0)::I,rfl,.cons hid ay,hk id⟩
theorem D.nx{pos:Nat}(k:Nat)(hx:aW l x=some (.ptr id 0))(h2:I[k]? =some (id,.iter p pos))(hlt:pos<p.size)(ji:I.set k (id,.iter p (pos+(Utf8.decode p pos).2))=aM)
 (hk:K (.kX [.v (.bool true),.v (.int .i64 pos),.v (.int .i32 (Utf8.decode p pos).1)]) aM):DS P n ops H0 ⟨dst,.next x true,ty,ps,af,none⟩ l I K:=by
 subst ji
 exactλay=>Does.U4 U U (aG hx) (ay.at_ h2) hlt ⟨_,(ay.ku _ h2).1,(ay.ku _ h2).2,hk⟩
theorem D.nxo{pos:Nat}(k:Nat)(hx:aW l x=some (.ptr id 0))(h2:I[k]? =some (id,.iter p pos))(hlt:¬pos<p.size)(hk:K (.kX [.v (.bool false)]) I):DS P n ops H0 ⟨dst,.next x true,ty,ps,af,none⟩ l I K:=
 λay=>Does.SL U U (aG hx) (ay.at_ h2) hlt ⟨I,rfl,ay,hk⟩
theorem D.ib(ht:P.underlying t=some .string)(hx:aW l x=some (.v (.string p)))(hy:aW l y=some (.v (.int ki i)))(h0:0<=i)(h1:i<p.size)(hk:0<=eO p i/\eO p i<256->K (.v (.int .u8 (eO p i))) I):DS P n ops H0 ⟨dst,.index t x y,ty,ps,af,none⟩ l I K:=D.qu (Z.is ht hx hy h0 h1) (hk (ql _ _))
theorem D.eqn(ht:P.underlying t=some (.slice e))(hx:aW l x=some (.sl rows))(hk:∀bb:Bool,(bb=true->rows=[])->K (.v (.bool bb)) I):DS P n ops H0 ⟨dst,.binOp .eql t x (.const (.slice none 0 0)) t2,ty,ps,af,none⟩ l I K:=
 λay=>Does.Eb (m:=rows.length) U U ht U (λρ w z hz=>by
  rw[aG hx] at hz
  cases hz with
  |nil=>exact⟨none,0,rfl,λ_=>rfl⟩
  |sl rows a cap=>exact⟨some a,cap,rfl,λh=>by simp at h⟩) λc hc=>⟨I,rfl,ay,hk c λh=>List.eq_nil_of_length_eq_zero (hc h)⟩
theorem mD.bothI{len:Nat}(h0:0<=i)(h1:0<=a)(hy:aW l y=some (.v (.int ki i)))(hz:aW l z=some (.v (.int kj a))):mD l len (some y) (some z) i.toNat a.toNat:=.both (by rw[hy,Int.toNat_of_nonneg h0]) (by rw[hz,Int.toNat_of_nonneg h1])
theorem kz{ky:List (List AV)}(h:(ky.all λcs=>cs.length==sz)=true):∀cs∈ky,cs.length=sz:=λcs hcs=>by simpa using List.all_eq_true.1 h cs hcs
theorem Z.II{m:Nat}(k:Nat)(ht:eQ P t=some (false,sz))(hx:aW l x=some (.ptr id off))(h2:I[k]? =some (id,.row e 1 rows))(hoff:off=m*1)(hrows:∀cs∈rows,cs.length=1)(hi:rows[m]? =some (u::cs)):QS P n ops H0 ⟨dst,.load t x,ty,ps,af,none⟩ l I u:=QS.MS U U ht hx h2 hoff hrows hi
theorem D.cn{cc:Operand}{args:Array Operand}{at_:Array TypeId}{df:List AV}{R:AV->List (Nat×Ob)->Prop}(hc:aW l cc=some (.iF f df))(ha:iM l args.toList=some us)
 (h:aP H0 I->au P f (us++df) (aD H0 I) (λu H'=>∃news,aP (aD H0 I) news/\H'=aD (aD H0 I) news/\R u news)) (hk:∀u news,R u news->K u (news++I)):DS P n ops H0 ⟨dst,.call {callee:=.value cc,args:=args,argTypes:=at_},ty,ps,af,none⟩ l I K:=DS.mE U U hc ha h hk
theorem S.sq(h:UW P n (ng (AW P n c2 Q) Q) H0 c1 l I):UW P n Q H0 (.seq c1 c2) l I:=UW.seq h
theorem S.rg{ol:List Oper}(h:US P n ol.toArray Q H0 ol l I):UW P n Q H0 (.region id ol.toArray false) l I:=UW.region h
theorem S.cT{cc:Operand}{bb:Bool}(hc:aW l cc=some (.v (.bool bb)))(hb:bb=true)(h:UW P n Q H0 c1 l I):UW P n Q H0 (.cond cc c1 c2) l I:=UW.cond hc (λ_=>h) (λh0=>by rw[hb] at h0;cases h0)
theorem S.cF{cc:Operand}{bb:Bool}(hc:aW l cc=some (.v (.bool bb)))(hb:bb=false)(h:UW P n Q H0 c2 l I):UW P n Q H0 (.cond cc c1 c2) l I:=UW.cond hc (λh0=>by rw[hb] at h0;cases h0) (λ_=>h)
theorem S.cD{cc:Operand}{p:Prop}[Decidable p](hc:aW l cc=some (.v (.bool (decide p))))(ht:p->UW P n Q H0 c1 l I)(hf:¬p->UW P n Q H0 c2 l I):UW P n Q H0 (.cond cc c1 c2) l I:=UW.cond hc (λh=>ht (of_decide_eq_true h)) (λh=>hf (of_decide_eq_false h))
theorem S.cB{cc:Operand}{bb:Bool}(hc:aW l cc=some (.v (.bool bb)))(ht:bb=true->UW P n Q H0 c1 l I)(hf:bb=false->UW P n Q H0 c2 l I):UW P n Q H0 (.cond cc c1 c2) l I:=UW.cond hc ht hf
theorem US.wH(d:Nat){u':AV}(hl:look l d=some u)(he:u=u')(hk:US P n ops Q H0 rest ((d,u')::l) I):US P n ops Q H0 rest l I:=US.slot d hl (by rw[he];exact bO.drop (λ_ _ h=>h) _) hk
theorem S.tD(d:Nat){p:Prop}[Decidable p](ht:p->US P n ops Q H0 rest ((d,.v (.bool true))::l) I)(hf:¬p->US P n ops Q H0 rest ((d,.v (.bool false))::l) I)(hl:look l d=some (.v (.bool (decide p))):=by rfl):US P n ops Q H0 rest l I:=by
 by_cases h:p
 ·exact US.wH d hl (by simp[h]) (ht h)
 ·exact US.wH d hl (by simp[h]) (hf h)
theorem S.tB(d:Nat){bb:Bool}(ht:bb=true->US P n ops Q H0 rest ((d,.v (.bool true))::l) I)(hf:bb=false->US P n ops Q H0 rest ((d,.v (.bool false))::l) I)(hl:look l d=some (.v (.bool bb)):=by rfl):US P n ops Q H0 rest l I:=by
 cases bb with
 |true=>exact US.wH d hl U (ht U)
 |false=>exact US.wH d hl U (hf U)
theorem jP{α:Type}[BEq α][LawfulBEq α]{x y:α}(h:x=y):(x==y)=true:=by simp[h]
theorem gG{α:Type}[BEq α][LawfulBEq α]{x y:α}(h:¬x=y):(x==y)=false:=by simpa using h
theorem rP{α:Type}[BEq α][LawfulBEq α]{x y:α}(h:¬x=y):(x !=y)=true:=by simpa using h
theorem mJ{α:Type}[BEq α][LawfulBEq α]{x y:α}(h:x=y):(x !=y)=false:=by simp[h]
section
variable {α:Type} [BEq α] [LawfulBEq α] {X aj:α}
theorem S.cE{cc:Operand}(hc:aW l cc=some (.v (.bool (X==aj))))(ht:X=aj->UW P n Q H0 c1 l I)(hf:¬X=aj->UW P n Q H0 c2 l I):UW P n Q H0 (.cond cc c1 c2) l I:=UW.cond hc (λh=>ht (by simpa using h)) (λh=>hf (by simpa using h))
theorem S.cO{cc:Operand}(hc:aW l cc=some (.v (.bool (X !=aj))))(ht:¬X=aj->UW P n Q H0 c1 l I)(hf:X=aj->UW P n Q H0 c2 l I):UW P n Q H0 (.cond cc c1 c2) l I:=UW.cond hc (λh=>ht (by simpa using h)) (λh=>hf (by simpa using h))
theorem S.tE(d:Nat)(ht:X=aj->US P n ops Q H0 rest ((d,.v (.bool true))::l) I)(hf:¬X=aj->US P n ops Q H0 rest ((d,.v (.bool false))::l) I)(hl:look l d=some (.v (.bool (X==aj))):=by rfl):US P n ops Q H0 rest l I:=by
 by_cases h:X=aj
 ·exact US.wH d hl (by simp[h]) (ht h)
 ·exact US.wH d hl (by simp[h]) (hf h)
theorem S.tO(d:Nat)(ht:¬X=aj->US P n ops Q H0 rest ((d,.v (.bool true))::l) I)(hf:X=aj->US P n ops Q H0 rest ((d,.v (.bool false))::l) I)(hl:look l d=some (.v (.bool (X !=aj))):=by rfl):US P n ops Q H0 rest l I:=by
 by_cases h:X=aj
 ·exact US.wH d hl (by simp[h]) (hf h)
 ·exact US.wH d hl (by simp[h]) (ht h)
end
theorem S.tT(d:Nat){bb:Bool}(hb:bb=true)(hk:US P n ops Q H0 rest ((d,.v (.bool true))::l) I)(hl:look l d=some (.v (.bool bb)):=by rfl):US P n ops Q H0 rest l I:=US.wH d hl (by rw[hb]) hk
theorem S.tF(d:Nat){bb:Bool}(hb:bb=false)(hk:US P n ops Q H0 rest ((d,.v (.bool false))::l) I)(hl:look l d=some (.v (.bool bb)):=by rfl):US P n ops Q H0 rest l I:=US.wH d hl (by rw[hb]) hk
theorem S.eq(d:Nat){u':AV}(he:u=u')(hk:US P n ops Q H0 rest ((d,u')::l) I)(hl:look l d=some u:=by rfl):US P n ops Q H0 rest l I:=US.wH d hl he hk
inductive Az (P:Program) (T:Sl) (H:Hp):List ResultVar->List AV->Prop
 |nil:Az P T H [] []
 |cons {r:ResultVar} {v:AV} {rs:List ResultVar} {vs:List AV} (h:Ai P T H r v) (ht:Az P T H rs vs):Az P T H (r::rs) (v::vs)
theorem Cb{T:Sl}{H:Hp}:Az P T H [] []:=.nil
theorem jE{T:Sl}{H:Hp}{r:ResultVar}{v:AV}{rs:List ResultVar}{vs:List AV}(h:Ai P T H r v)(ht:Az P T H rs vs):Az P T H (r::rs) (v::vs):=.cons h ht
theorem Az.all{T:Sl}{H:Hp}{rs:List ResultVar}{vs:List AV}(h:Az P T H rs vs):rs.length=vs.length/\∀(j:Nat) r v,rs[j]? =some r->vs[j]? =some v->Ai P T H r v:=by
 induction h with
 |nil=>exact⟨rfl,λj r v a=>by simp at a⟩
 |cons h ht ih=>
  refine⟨by simp[ih.1],λj r v a b=>?_⟩
  cases j with
  |zero=>simp at a b;subst a b;exact h
  |succ j=>exact ih.2 j r v (by simpa using a) (by simpa using b)
theorem ES{fn:Func}{rs:List ResultVar}(hf:fn.results=rs.toArray)(hl:rs.length≠1)(hn:rs.length=us.length)(h:Az P (gD l) (aD H0 I) rs us):Ry P (gD l) (aD H0 I) fn (.kX us):=
 .inr ⟨rs,us,hf,hl,rfl,hn,h.all.2⟩
theorem S.rt{fn:Func}{K':AV->Hp->Prop}(hr:aP H0 I->Ry P (gD l) (aD H0 I) fn u)(hk:K' u H0):UQ (UT P fn K') H0 .ret l I:=bR [] hr (List.nil_sublist _) λ_=>hk
theorem S.bH{fn:Func}{r:AV}(hr:aP H0 I->Ry P (gD l) (aD H0 I) fn u)(hu:u=r):UQ (UT P fn (bB H0 r)) H0 .ret l I:=S.rt hr ⟨hu,rfl⟩
theorem Z.kw{keep:List (Nat×Ob)}(j:Nat)(hK:Has keep I)(ht:eQ P t=some (true,sz))(hx:aW l x=some (.ptr id 0))(h2:keep[j]? =some (id,.box e ls))(hl:ls.length=sz):QS P n ops H0 ⟨dst,.load t x,ty,ps,af,none⟩ l I (.agg ls):=by
 obtain⟨k,hk⟩:=hK.get h2
 exact Z.bW k ht hx hk hl
theorem Z.kc{keep:List (Nat×Ob)}(j:Nat)(hK:Has keep I)(ht:eQ P t=some (false,sz))(hx:aW l x=some (.ptr id off))(h2:keep[j]? =some (id,.box e ls))(hr:ls[off]? =some u):QS P n ops H0 ⟨dst,.load t x,ty,ps,af,none⟩ l I u:=by
 obtain⟨k,hk⟩:=hK.get h2
 exact Z.dM k ht hx hk hr
theorem Z.ka{keep:List (Nat×Ob)}(j:Nat)(hK:Has keep I)(ht:eQ P t=some (true,sz))(hx:aW l x=some (.ptr id off))(h2:keep[j]? =some (id,.box e ls))(hr:EM ls off sz=some rs):QS P n ops H0 ⟨dst,.load t x,ty,ps,af,none⟩ l I (.agg rs):=by
 obtain⟨k,hk⟩:=hK.get h2
 exact Z.SN k ht hx hk hr
theorem Q.mv(hx:aW l x=some u)(hk:US P n ops Q H0 rest ((d,u)::l) I)(hn:d<n:=by decide):US P n ops Q H0 (⟨some d,.move x,ty,ps,af,none⟩::rest) l I:=S.qu (Z.mv hx) hk hn
theorem Q.as(hx:aW l x=some u)(hk:US P n ops Q H0 rest ((d,u)::l) I)(hn:d<n:=by decide):US P n ops Q H0 (⟨some d,.assign x,ty,ps,af,none⟩::rest) l I:=S.qu (Z.as hx) hk hn
theorem Q.pk{bb:Bool}{cc:Operand}(hc:aW l cc=some (.v (.bool bb)))(hr:(if bb then aW l x else aW l y)=some r)(hk:US P n ops Q H0 rest ((d,r)::l) I)(hn:d<n:=by decide):US P n ops Q H0 (⟨some d,.pick cc x y,ty,ps,af,none⟩::rest) l I:=S.qu (Z.pick hc hr) hk hn
theorem Q.bi{op:BinOp}{vr:Value}(hx:aW l x=some (.v (.int ki a)))(hy:aW l y=some (.v (.int ki a')))(h:eT op ki a a'=some vr)(hk:US P n ops Q H0 rest ((d,.v vr)::l) I)(hn:d<n:=by decide):US P n ops Q H0 (⟨some d,.binOp op t x y t2,ty,ps,af,none⟩::rest) l I:=S.qu (Z.bi hx hy h) hk hn
theorem Q.lc(k:Nat)(ht:eQ P t=some (false,sz))(hx:aW l x=some (.ptr id off))(h2:I[k]? =some (id,.box e ls))(hr:ls[off]? =some u)(hk:US P n ops Q H0 rest ((d,u)::l) I)(hn:d<n:=by decide):US P n ops Q H0 (⟨some d,.load t x,ty,ps,af,none⟩::rest) l I:=S.qu (Z.dM k ht hx h2 hr) hk hn
theorem Q.fa{fl off':Nat}(h:dP P t fl=some off')(hx:aW l x=some (.ptr id off))(hk:US P n ops Q H0 rest ((d,.ptr id (off+off'))::l) I)(hn:d<n:=by decide):US P n ops Q H0 (⟨some d,.fieldAddr t x fl,ty,ps,af,none⟩::rest) l I:=S.qu (Z.fa h hx) hk hn
theorem Q.of{bb b2:Bool}(hk:US P n ops Q H0 rest ((d,.v undef)::l) I)(hdg:(ops[g]?).bind (·.dst)=some f:=by rfl)(hT:look l f=some (.v (.bool b2)):=by rfl)(hb:b2=!bb:=by rfl)(hn:d<n:=by decide):US P n ops Q H0 (⟨some d,op,ty,ps,af,some (g,bb)⟩::rest) l I:=S.qu (Z.of hdg hT hb) hk hn
theorem Q.ou{bb:Bool}(hk:US P n ops Q H0 rest ((d,.v undef)::l) I)(hdg:(ops[g]?).bind (·.dst)=some f:=by rfl)(hT:look l f=some (.v undef):=by rfl)(hn:d<n:=by decide):US P n ops Q H0 (⟨some d,op,ty,ps,af,some (g,bb)⟩::rest) l I:=S.qu (Z.UF hdg hT) hk hn
theorem Q.on{bb:Bool}(h:QS P n ops H0 ⟨some d,op,ty,ps,af,none⟩ l I u)(hk:US P n ops Q H0 rest ((d,u)::l) I)(hdg:(ops[g]?).bind (·.dst)=some f:=by rfl)(hdn:f<n:=by decide)(hT:look l f=some (.v (.bool bb)):=by rfl)(hn:d<n:=by decide):US P n ops Q H0 (⟨some d,op,ty,ps,af,some (g,bb)⟩::rest) l I:=S.qu (Z.on h hdg hdn hT) hk hn
theorem Q.nt(h:UW P n Q H0 c l I):US P n ops (ng (AW P n c Q) Q) H0 [] l I:=US.nil (UQ.then h)
theorem Q.rg{ol:List Oper}(h:US P n ol.toArray (ng (AW P n c2 Q) Q) H0 ol l I):UW P n Q H0 (.seq (.region id ol.toArray false) c2) l I:=S.sq (S.rg h)
end
end
end Go.iG
end
section
namespace Go.Proofs.YtonpfomjoiaacaaGreatDoor
open Go Go.iG Go.RowKit
inductive V where
 |mk (k n:Int) (t:ByteArray) (ks:List ByteArray) (vs:List V)
namespace V
def k:V->Int| .mk k _ _ _ _=>k
def n:V->Int| .mk _ n _ _ _=>n
def t:V->ByteArray| .mk _ _ t _ _=>t
def ks:V->List ByteArray| .mk _ _ _ ks _=>ks
def vs:V->List V| .mk _ _ _ _ vs=>vs
end V
def encS(s:ByteArray):List AV:=[.v (.string s)]
def encI(i:Int):List AV:=[.v (.int .i64 i)]
def strs(l:List ByteArray):AV:=.sl (l.map encS)
mutual
def aC:V->List AV
 | .mk k n t ks vs=>[.v (.int .i64 k),.v (.int .i64 n),.v (.string t),.sl (ks.map encS),.sl (bu vs)]
def bu:List V->List (List AV)
 |[]=>[]
 |x::r=>aC x::bu r
end
theorem eX:∀l:List V,bu l=l.map aC
 |[]=>by simp[bu]
 |x::r=>by simp[bu,eX r]
theorem Y(x:V):(aC x).length=5:=by cases x;simp[aC]
theorem az(x:V):(aC x).all aT=true:=by cases x;simp[aC,aT,Value.oneCell']
section types
theorem lg:eQ Tryz.prog 2=some (false,1):=by kernel_rfl
theorem fB:eQ Tryz.prog 3=some (false,1):=by kernel_rfl
theorem oo:eQ Tryz.prog 4=some (false,1):=by kernel_rfl
theorem oW:eQ Tryz.prog 5=some (false,1):=by kernel_rfl
theorem dW:eQ Tryz.prog 9=some (false,1):=by kernel_rfl
theorem dB:eQ Tryz.prog 23=some (false,1):=by kernel_rfl
theorem dR:eQ Tryz.prog 24=some (false,1):=by kernel_rfl
theorem av:eQ Tryz.prog 26=some (true,5):=by kernel_rfl
theorem ET:eQ Tryz.prog 22=some (false,1):=by kernel_rfl
theorem aZ:lu Tryz.prog 23=some (9,1,16):=by kernel_rfl
theorem bP:lu Tryz.prog 24=some (26,5,80):=by kernel_rfl
theorem cK:lu Tryz.prog 22=some (5,1,1):=by kernel_rfl
theorem AA:lu Tryz.prog 85=some (3,1,8):=by kernel_rfl
theorem z3:(Tryz.prog.info? 3).map (·.zero)=some (some (.int .i64 0)):=by kernel_rfl
theorem z5:(Tryz.prog.info? 5).map (·.zero)=some (some (.int .u8 0)):=by kernel_rfl
theorem z9:(Tryz.prog.info? 9).map (·.zero)=some (some (.string ⟨#[]⟩)):=by kernel_rfl
theorem z26:(Tryz.prog.info? 26).map (·.zero)=some (some (.agg #[.int .i64 0,.int .i64 0,.string ⟨#[]⟩,.slice none 0 0,.slice none 0 0])):=by kernel_rfl
theorem dQ:kg Tryz.prog 23 9 1 16:=⟨aZ,⟨_,z9,rfl,rfl⟩,by decide,by decide⟩
theorem jw:kg Tryz.prog 24 26 5 80:=⟨bP,⟨_,z26,rfl,rfl⟩,by decide,by decide⟩
theorem je:kg Tryz.prog 22 5 1 1:=⟨cK,⟨_,z5,rfl,rfl⟩,by decide,by decide⟩
theorem wI:kg Tryz.prog 85 3 1 8:=⟨AA,⟨_,z3,rfl,rfl⟩,by decide,by decide⟩
theorem bT:dP Tryz.prog 26 0=some 0:=by kernel_rfl
theorem jf:dP Tryz.prog 26 1=some 1:=by kernel_rfl
theorem kY:dP Tryz.prog 26 2=some 2:=by kernel_rfl
theorem dJ:dP Tryz.prog 26 3=some 3:=by kernel_rfl
theorem bU:dP Tryz.prog 26 4=some 4:=by kernel_rfl
theorem gU:oJ Tryz.prog 26=some ([.int .i64 0,.int .i64 0,.string ⟨#[]⟩,.slice none 0 0,.slice none 0 0],[(0,1),(1,1),(2,1),(3,1),(4,1)]):=by kernel_rfl
theorem gQ:∃fs,Tryz.prog.underlying 26=some (.struct fs):=⟨_,Tryz.underlying26⟩
theorem gT:(Tryz.prog.info? 26).map (·.size)=some 5:=by kernel_rfl
end types
end Go.Proofs.YtonpfomjoiaacaaGreatDoor
end
