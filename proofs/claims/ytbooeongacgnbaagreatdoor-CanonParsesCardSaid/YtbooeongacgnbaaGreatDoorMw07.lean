/- A part of the proof. -/
import Derived.Test.YtbooeongacgnbaaGreatDoorMw06
import Derived.IntWalk
import Derived.Test.YtbooeongacgnbaaGreatDoorChecked
set_option maxRecDepth 100000
set_option maxHeartbeats 4000000
set_option linter.unusedSectionVars false
set_option linter.unusedVariables false
set_option linter.unusedSimpArgs false
section
namespace Go.gW
open Go Go.RowKit
section
variable [Rd]
section
variable {P:Program} {n:Nat} {ops:Array Oper} {Q:oo->Sl->Hp->Prop} {H0:Hp} {l:List (Nat×AV)} {M aL:List (Nat×Ob)} {rest:List Oper} {c c1 c2:Code}
variable {dst:Option Nat} {ty:TypeId} {ps:String} {af:Array Edge} {op:Op} {o:Oper} {x y z v:Operand} {u r:AV} {t t2 e sz b:Nat} {id k off d f g:Nat} {ob:Ob} {cells ls rs cs us:List AV} {rows rws news:List (List AV)} {lo hi:Option Operand}
variable {K:AV->List (Nat×Ob)->Prop} {ki kj km:IntKind} {i a a':Int} {p q:ByteArray} {gd:Option (Nat×Bool)}
theorem S.qu(h:QS P n ops H0 ⟨some d,op,ty,ps,af,gd⟩ l M u)(hk:US P n ops Q H0 rest ((d,u)::l) M)(hn:d<n:=by decide):US P n ops Q H0 (⟨some d,op,ty,ps,af,gd⟩::rest) l M:=US.qs U hn h hk
theorem S.dd(h:DS P n ops H0 ⟨some d,op,ty,ps,af,gd⟩ l M (λu aL=>US P n ops Q H0 rest ((d,u)::l) aL))(hn:d<n:=by decide):US P n ops Q H0 (⟨some d,op,ty,ps,af,gd⟩::rest) l M:=US.step U hn h
theorem S.s(h:DS P n ops H0 ⟨none,op,ty,ps,af,gd⟩ l M (λ_ aL=>US P n ops Q H0 rest l aL)):US P n ops Q H0 (⟨none,op,ty,ps,af,gd⟩::rest) l M:=US.step0 U h
theorem Z.on{bb:Bool}(h:QS P n ops H0 ⟨dst,op,ty,ps,af,none⟩ l M u)(hdg:(ops[g]?).bind (·.dst)=some d:=by rfl)(hdn:d<n:=by decide)(hT:look l d=some (.v (.bool bb)):=by rfl):QS P n ops H0 ⟨dst,op,ty,ps,af,some (g,bb)⟩ l M u:=QS.on U hdg hdn hT h
theorem Z.of{bb b2:Bool}(hdg:(ops[g]?).bind (·.dst)=some d:=by rfl)(hT:look l d=some (.v (.bool b2)):=by rfl)(hb:b2=!bb:=by rfl):QS P n ops H0 ⟨dst,op,ty,ps,af,some (g,bb)⟩ l M (.v undef):=QS.Yx U hdg hT hb
theorem Z.Nn{bb:Bool}(hdg:(ops[g]?).bind (·.dst)=some d:=by rfl)(hT:look l d=some (.v undef):=by rfl):QS P n ops H0 ⟨dst,op,ty,ps,af,some (g,bb)⟩ l M (.v undef):=QS.WV U hdg hT
theorem D.on{bb:Bool}(h:DS P n ops H0 ⟨dst,op,ty,ps,af,none⟩ l M K)(hdg:(ops[g]?).bind (·.dst)=some d:=by rfl)(hdn:d<n:=by decide)(hT:look l d=some (.v (.bool bb)):=by rfl):DS P n ops H0 ⟨dst,op,ty,ps,af,some (g,bb)⟩ l M K:=DS.on U hdg hdn hT h
theorem Z.mv(hx:bA l x=some u):QS P n ops H0 ⟨dst,.move x,ty,ps,af,none⟩ l M u:=QS.move U U hx
theorem Z.as(hx:bA l x=some u):QS P n ops H0 ⟨dst,.assign x,ty,ps,af,none⟩ l M u:=QS.assign U U hx
theorem Z.bg(k:Nat)(ht:eQ P t=some (true,sz))(hx:bA l x=some (.ptr id 0))(h2:M[k]? =some (id,.box e ls))(hl:ls.length=sz):QS P n ops H0 ⟨dst,.load t x,ty,ps,af,none⟩ l M (.agg ls):=QS.oQ U U ht hx h2 hl
theorem Z.dQ(k:Nat)(ht:eQ P t=some (false,sz))(hx:bA l x=some (.ptr id off))(h2:M[k]? =some (id,.box e ls))(hr:ls[off]? =some u):QS P n ops H0 ⟨dst,.load t x,ty,ps,af,none⟩ l M u:=QS.D6 U U ht hx h2 hr
theorem Z.Cn(ht:eQ P t=some (true,sz))(hx:bA l x=some (.rp cells))(hl:cells.length=sz):QS P n ops H0 ⟨dst,.load t x,ty,ps,af,none⟩ l M (.agg cells):=QS.iR U U hx ht hl
theorem Z.lF(ht:eQ P t=some (false,sz))(hx:bA l x=some (.rp (u::rs))):QS P n ops H0 ⟨dst,.load t x,ty,ps,af,none⟩ l M u:=QS.eZ U U hx ht
theorem Z.WY(h2:H0 id=some (.box e ls))(ht:eQ P t=some (false,sz))(hx:bA l x=some (.ptr id off))(hr:ls[off]? =some u):QS P n ops H0 ⟨dst,.load t x,ty,ps,af,none⟩ l M u:=QS.T9 U U ht hx h2 hr
theorem Z.fa{fl off':Nat}(h:dM P t fl=some off')(hx:bA l x=some (.ptr id off)):QS P n ops H0 ⟨dst,.fieldAddr t x fl,ty,ps,af,none⟩ l M (.ptr id (off+off')):=QS.fieldAddr U U hx h
theorem Z.ia(ht:lY P t=some (e,sz,b))(hx:bA l x=some (.sl rows))(hy:bA l y=some (.v (.int ki i)))(h0:0<=i)(h1:rows[i.toNat]? =some cs)(hs:cs.length=sz):QS P n ops H0 ⟨dst,.indexAddr t x y,ty,ps,af,none⟩ l M (.rp cs):=QS.dN U U ht hx hy h0 h1 hs
theorem Z.io{off len:Nat}(ht:lY P t=some (e,sz,b))(hx:bA l x=some (.own id off len sz))(hy:bA l y=some (.v (.int ki i)))(h0:0<=i)(h1:i<len):QS P n ops H0 ⟨dst,.indexAddr t x y,ty,ps,af,none⟩ l M (.ptr id ((off+i.toNat)*sz)):=QS.oq U U ht hx hy h0 h1
def aO(s:ByteArray)(i:Int):Int:=if h:i.toNat<s.size then((s[i.toNat]'h).toNat:Int) else 0
theorem gG(s:ByteArray)(i:Int):0<=aO s i/\aO s i<256:=by
 unfold aO
 split
 ·have:=(s[i.toNat]).toNat_lt;omega
 ·omega
theorem Z.is(ht:P.underlying t=some .string)(hx:bA l x=some (.v (.string p)))(hy:bA l y=some (.v (.int ki i)))(h0:0<=i)(h1:i<p.size):QS P n ops H0 ⟨dst,.index t x y,ty,ps,af,none⟩ l M (.v (.int .u8 (aO p i))):=
 QS.bz U U ht hx hy h0 h1 (by unfold aO;rw[dif_pos (by omega)])
theorem Z.WB{m m':Nat}(ht:lY P t=some (e,sz,b))(hx:bA l x=some (.sl rows))(hs:∀cs∈rows,cs.length=sz)(hb:kV l rows.length lo hi m m')(h1:m<=m')(h2:m'<=rows.length)(hr:(rows.take m').drop m=rws):QS P n ops H0 ⟨dst,.slice t x lo hi none,ty,ps,af,none⟩ l M (.sl rws):=QS.mo U U ht hx hs hb h1 h2 hr
theorem Z.zY{m m' off len:Nat}(ht:lY P t=some (e,sz,b))(hx:bA l x=some (.own id off len sz))(hb:kV l len lo hi m m')(h1:m<=m')(h2:m'<=len):QS P n ops H0 ⟨dst,.slice t x lo hi none,ty,ps,af,none⟩ l M (.own id (off+m) (m'-m) sz):=QS.xP U U ht hx hb h1 h2
theorem Z.slt{m m':Nat}(ht:P.underlying t=some .string)(hx:bA l x=some (.v (.string p)))(hb:kV l p.size lo hi m m')(h1:m<=m')(h2:m'<=p.size):QS P n ops H0 ⟨dst,.slice t x lo hi none,ty,ps,af,none⟩ l M (.v (.string (p.extract m m'))):=QS.lZ U U ht hx hb h1 h2
theorem Z.iy(ht:lY P t=some (e,sz,b))(hx:bA l x=some (.sl rows)):QS P n ops H0 ⟨dst,.call {callee:=.builtin .len,args:= #[x],argTypes:= #[t]},ty,ps,af,none⟩ l M (.v (.int .i64 (rows.length:Int))):=QS.lC U U ht hx
theorem Z.Co{off len:Nat}(ht:lY P t=some (e,sz,b))(hx:bA l x=some (.own id off len sz)):QS P n ops H0 ⟨dst,.call {callee:=.builtin .len,args:= #[x],argTypes:= #[t]},ty,ps,af,none⟩ l M (.v (.int .i64 (len:Int))):=QS.vD U U ht hx
theorem Z.lnn(ht:lY P t=some (e,sz,b))(hx:bA l x=some (.v (.slice none 0 0))):QS P n ops H0 ⟨dst,.call {callee:=.builtin .len,args:= #[x],argTypes:= #[t]},ty,ps,af,none⟩ l M (.v (.int .i64 0)):=QS.len_nil U U ht hx
theorem Z.fC(ht:P.underlying t=some .string)(hx:bA l x=some (.v (.string p))):QS P n ops H0 ⟨dst,.call {callee:=.builtin .len,args:= #[x],argTypes:= #[t]},ty,ps,af,none⟩ l M (.v (.int .i64 (p.size:Int))):=QS.nG U U ht hx
theorem Z.bi{op:BinOp}{vr:Value}(hx:bA l x=some (.v (.int ki a)))(hy:bA l y=some (.v (.int ki a')))(h:fu op ki a a'=some vr):QS P n ops H0 ⟨dst,.binOp op t x y t2,ty,ps,af,none⟩ l M (.v vr):=QS.aG U U hx hy h
theorem Z.bs{op:BinOp}{bb:Bool}(hx:bA l x=some (.v (.string p)))(hy:bA l y=some (.v (.string q)))(h:fB op p q=some bb):QS P n ops H0 ⟨dst,.binOp op t x y t2,ty,ps,af,none⟩ l M (.v (.bool bb)):=QS.kQ U U hx hy h
theorem Z.add{r:Int}(hx:bA l x=some (.v (.int ki a)))(hy:bA l y=some (.v (.int ki a')))(hr:ki.wrap (a+a')=r):QS P n ops H0 ⟨dst,.binOp .add t x y t2,ty,ps,af,none⟩ l M (.v (.int ki r)):=QS.add U U hx hy hr
theorem Z.sub{r:Int}(hx:bA l x=some (.v (.int ki a)))(hy:bA l y=some (.v (.int ki a')))(hr:ki.wrap (a-a')=r):QS P n ops H0 ⟨dst,.binOp .sub t x y t2,ty,ps,af,none⟩ l M (.v (.int ki r)):=QS.sub U U hx hy hr
theorem Z.mul{r:Int}(hx:bA l x=some (.v (.int ki a)))(hy:bA l y=some (.v (.int ki a')))(hr:ki.wrap (a*a')=r):QS P n ops H0 ⟨dst,.binOp .mul t x y t2,ty,ps,af,none⟩ l M (.v (.int ki r)):=QS.mul U U hx hy hr
theorem Z.cat(hx:bA l x=some (.v (.string p)))(hy:bA l y=some (.v (.string q)))(h:p.size+q.size<=9223372036854775807):QS P n ops H0 ⟨dst,.binOp .add t x y t2,ty,ps,af,none⟩ l M (.v (.string (p++q))):=QS.DV U U hx hy h
theorem Z.beq{m m':Bool}(ht:P.underlying t=some .bool)(hx:bA l x=some (.v (.bool m)))(hy:bA l y=some (.v (.bool m'))):QS P n ops H0 ⟨dst,.binOp .eql t x y t2,ty,ps,af,none⟩ l M (.v (.bool (m==m'))):=QS.NG U U ht hx hy
theorem Z.shl{r:Int}(hx:bA l x=some (.v (.int ki a)))(hy:bA l y=some (.v (.int kj a')))(hb:0<=a')(hr:ki.wrap (a*2^min a'.toNat ki.bits)=r):QS P n ops H0 ⟨dst,.binOp .shl t x y t2,ty,ps,af,none⟩ l M (.v (.int ki r)):=λaD=>Does.P5 U U (aJ hx) (aJ hy) hb ⟨by rw[hr],rfl⟩
theorem Z.shr{r:Int}(hx:bA l x=some (.v (.int ki a)))(hy:bA l y=some (.v (.int kj a')))(hb:0<=a')(hr:a.fdiv (2^min a'.toNat ki.bits)=r):QS P n ops H0 ⟨dst,.binOp .shr t x y t2,ty,ps,af,none⟩ l M (.v (.int ki r)):=λaD=>Does.rT U U (aJ hx) (aJ hy) hb ⟨by rw[hr],rfl⟩
theorem Z.not{m:Bool}(hx:bA l x=some (.v (.bool m))):QS P n ops H0 ⟨dst,.unOp .not t x,ty,ps,af,none⟩ l M (.v (.bool (!m))):=QS.not U U hx
theorem Z.neg{r:Int}(hx:bA l x=some (.v (.int ki a)))(hr:ki.wrap (0-a)=r):QS P n ops H0 ⟨dst,.unOp .neg t x,ty,ps,af,none⟩ l M (.v (.int ki r)):=λaD=>Does.neg U U (aJ hx) ⟨by rw[hr],rfl⟩
theorem Z.cv{r:Int}(ht:P.underlying t2=some (.int kj))(hx:bA l x=some (.v (.int ki a)))(hr:kj.wrap a=r)(hs:(P.underlying t).isSome=true):QS P n ops H0 ⟨dst,.convert t t2 x,ty,ps,af,none⟩ l M (.v (.int kj r)):=QS.conv U U hs ht hx hr
theorem Z.min{at_:Array TypeId}(hx:bA l x=some (.v (.int ki a)))(hy:bA l y=some (.v (.int kj a'))):QS P n ops H0 ⟨dst,.call {callee:=.builtin .min,args:= #[x,y],argTypes:=at_},ty,ps,af,none⟩ l M (.v (.int ki (if a'<a then a' else a))):=QS.min2 U U hx hy
theorem Z.ex{m:Nat}(hx:bA l x=some (.dH us))(hu:us[m]? =some u):QS P n ops H0 ⟨dst,.extract x m,ty,ps,af,none⟩ l M u:=QS.extract U U hx hu
theorem Z.pick{bb:Bool}{cc:Operand}(hc:bA l cc=some (.v (.bool bb)))(hr:(if bb then bA l x else bA l y)=some r):QS P n ops H0 ⟨dst,.pick cc x y,ty,ps,af,none⟩ l M r:=QS.pick U U hc hr
theorem Z.mf{dD:Array Operand}(ha:gD l dD.toList=some us):QS P n ops H0 ⟨dst,.makeFunc (.func f) #[] dD,ty,ps,af,none⟩ l M (.lW f us):=λaD=>Does.makeFunc U U ⟨by rw[iJ ha],rfl⟩
theorem Z.bd{parts:Array (Nat×Operand)}{zs:List Value}{places:List (Nat×Nat)}{KY rs':List AV}{jv:List (List AV)}(gp:List Nat)(ht:lD P t=some (zs,places))(ha:gD l (parts.toList.map (·.2))=some us)(hf:kD us=some jv)(hc:(jv.all λcs=>cs.all cK)=true)(hv:vals zs=some KY)(hr:yF KY gp jv=some rs)(hu:jl rs=rs')
 (hz:zs.all (·.oneCell')=true:=by rfl) (hp:jw places (parts.toList.map (·.1)) gp (jv.map (·.length))=true:=by rfl):QS P n ops H0 ⟨dst,.build t parts,ty,ps,af,none⟩ l M (.agg rs'):=QS.D8 gp U U ht hz hv ha hf hc hp hr hu
theorem Z.ZB{parts:Array (Nat×Operand)}{zs:List Value}{places:List (Nat×Nat)}{KY:List AV}{jv:List (List AV)}(gp:List Nat)(ht:lD P t=some (zs,places))(ha:gD l (parts.toList.map (·.2))=some us)(hf:kD us=some jv)(hc:(jv.all λcs=>cs.all cK)=true)(hv:vals zs=some KY)(hr:yF KY gp jv=some rs)
 (hz:zs.all (·.oneCell')=true:=by rfl) (hp:jw places (parts.toList.map (·.1)) gp (jv.map (·.length))=true:=by rfl):QS P n ops H0 ⟨dst,.build t parts,ty,ps,af,none⟩ l M (.agg rs):=QS.build gp U U ht hz hv ha hf hc hp hr
theorem Z.bl{len:Nat}{parts:Array (Nat×Operand)}{jv:List (List AV)}(ht:kC P t e sz b)(ha:gD l (parts.toList.map (·.2))=some us)(hf:kD us=some jv)(hc:∀cs∈jv,cs.all cK=true/\cs.length=sz)(hl:len*sz<=2^24:=by decide)(hp:parts.toList.map (·.1)=List.range len:=by rfl):QS P n ops H0 ⟨dst,.buildSlice t len parts,ty,ps,af,none⟩ l M (.sl jv):=QS.tX U U ht hl hp ha hf hc
theorem Z.call{cc:Operand}{args:Array Operand}{at_:Array TypeId}{dD:List AV}(hc:bA l cc=some (.lW f dD))(ha:gD l args.toList=some us)(h:∀H,F P f (us++dD) H (bn H r)):QS P n ops H0 ⟨dst,.call {callee:=.value cc,args:=args,argTypes:=at_},ty,ps,af,none⟩ l M r:=QS.call U U hc ha λ_=>h _
theorem Z.aQ{cc:Operand}{args:Array Operand}{at_:Array TypeId}{dD:List AV}(hc:bA l cc=some (.lW f dD))(ha:gD l args.toList=some us)(h:aK H0 M->F P f (us++dD) (aB H0 M) (bn (aB H0 M) r)):QS P n ops H0 ⟨dst,.call {callee:=.value cc,args:=args,argTypes:=at_},ty,ps,af,none⟩ l M r:=QS.call U U hc ha h
theorem Z.eq{u':AV}(h:QS P n ops H0 o l M u)(he:u=u'):QS P n ops H0 o l M u':=he▸h
theorem Z.tT{bb:Bool}(h:QS P n ops H0 o l M (.v (.bool bb)))(he:bb=true):QS P n ops H0 o l M (.v (.bool true)):=he▸h
theorem Z.tF{bb:Bool}(h:QS P n ops H0 o l M (.v (.bool bb)))(he:bb=false):QS P n ops H0 o l M (.v (.bool false)):=he▸h
theorem D.qu(h:QS P n ops H0 o l M u)(hk:K u M):DS P n ops H0 o l M K:=DS.qs h hk
theorem D.box(hx:bA l x=some u)(hf:mr u=some cells)(hc:cells.all cK=true)(hk:∀id,K (.ptr id 0) ((id,.box e cells)::M)):DS P n ops H0 ⟨dst,.box e x,ty,ps,af,none⟩ l M K:=
 λaD=>Does.box U U (by rw[aJ hx,fe hf];exact hc) λid hid=>⟨(id,.box e cells)::M,by rw[aJ hx,fe hf];rfl,.cons hid aD,hk id⟩
theorem D.al{zs:List Value}{lu:List AV}{zv:Value}(hz:(P.info? e).map (·.zero)=some (some zv))(hzs:zv.cells.toList=zs)(hv:vals zs=some us)(hu:jl us=lu)(hk:∀id,K (.ptr id 0) ((id,.box e lu)::M))(hc:zs.all (·.oneCell')=true:=by rfl):DS P n ops H0 ⟨dst,.alloc e,ty,ps,af,none⟩ l M K:=by
 subst hzs hu
 intro hd a w ρ h1 hdf hr hT N Qc hN
 refine Does.alloc (P:=P) (n:=n) (ops:=ops) (T:=gz l) (H:=aB H0 M) (K:=λu H'=>∃id,u=.ptr id 0/\aB H0 M id=none/\H'=aB H0 ((id,.box e us)::M)) U U hz hc (λid hid=>⟨id,rfl,hid,by rw[<-rW hv];rfl⟩) a w ρ h1 hdf hr hT N Qc<|?_
 rintro x w' ρ' u H' q1 q2 q3 ⟨id,rfl,hid,rfl⟩
 have hd2:aK H0 ((id,.box e us)::M):=.cons hid hd
 have hi:Inv ⟨ρ',aB H0 ((id,.box e us)::M),w'⟩ (a.tmps.push x).size (λt=>if t<a.tmps.size then gz l t else if t=a.tmps.size then .ptr id 0 else .any) (aB H0 ((id,.box e us)::M)) {tmps:=a.tmps.push x,defers:=[]} w':=by
  refine⟨rfl,.none,ρ',q1,Ext.refl _ _ _,λt=>?_⟩
  by_cases ht:t<a.tmps.size
  ·rw[if_pos ht]
   have:=q2.rep (hT t)
   have e1:(a.tmps.push x).getD t undef=a.tmps.getD t undef:=by
    simp[Array.getD_eq_getD_getElem?,Array.getElem?_push,Nat.ne_of_lt ht]
   show dL _ _ _ _ ((a.tmps.push x).getD t undef)
   rw[e1];exact this
  ·rw[if_neg ht]
   by_cases ht2:t=a.tmps.size
   ·rw[if_pos ht2]
    have e1:(a.tmps.push x).getD t undef=x:=by subst ht2;simp[Array.getD_eq_getD_getElem?]
    show dL _ _ _ _ ((a.tmps.push x).getD t undef)
    rw[e1];exact q3
   ·rw[if_neg ht2];exact .any _
 obtain⟨Tg,e1,e2,e3⟩:=(Gp (k:=0) hd2 rfl hi).rel
 have e4:=e3 a.tmps.size
 rw[if_neg (by omega),if_pos U] at e4
 have e5:(a.tmps.push x).getD a.tmps.size undef=x:=by simp[Array.getD_eq_getD_getElem?]
 have e6:dL (bK Tg (aB H0 ((id,.box e (jl us))::M))) Tg w' (.ptr id 0) x:=by rw[<-e5];exact e4
 have hd3:aK H0 ((id,.box e (jl us))::M):=.cons hid hd
 exact hN x w' Tg (.ptr id 0) (aB H0 ((id,.box e (jl us))::M)) e1 (q2.trans e2) e6 ⟨_,rfl,hd3,hk id⟩
theorem D.lit{len:Nat}{parts:Array (Nat×Operand)}{jv:List (List AV)}(ht:kC P t e sz b)(ha:gD l (parts.toList.map (·.2))=some us)(hf:kD us=some jv)(hc:∀cs∈jv,cs.all cK=true/\cs.length=sz)
 (hk:∀id,K (.own id 0 len sz) ((id,.row e sz jv)::M)) (hl:len*sz<=2^24:=by decide) (hp:parts.toList.map (·.1)=List.range len:=by rfl):DS P n ops H0 ⟨dst,.buildSlice t len parts,ty,ps,af,none⟩ l M K:=
 λaD=>by
  have e1:=iJ ha
  have e2:=l7 hf
  have e4:(parts.toList.map λp=>flat (ev (gz l) p.2))=jv:=by rw[<-e2,<-e1,List.map_map,List.map_map];rfl
  refine Does.buildSlice U U ht hl hp (λp hp'=>hc _ (by rw[<-e4];exact List.mem_map_of_mem (f:=λp=>flat (ev (gz l) p.2)) hp')) λid hid=>⟨(id,.row e sz jv)::M,by rw[e4];rfl,.cons hid aD,hk id⟩
theorem D.st{bb:Bool}(k:Nat)(ht:eQ P t=some (bb,sz))(hx:bA l x=some (.ptr id off))(h2:M[k]? =some (id,.box e ls))(hy:bA l y=some u)(hf:mr u=some cells)(hc:cells.all cK=true)(hl:cells.length=sz)(hr:y8 ls off cells=some rs)(jd:M.set k (id,.box e rs)=aL)(hk:∀u,K u aL):DS P n ops H0 ⟨dst,.store t x y,ty,ps,af,none⟩ l M K:=DS.xS U U ht hx h2 hy hf hc hl hr jd hk
theorem D.l8{bb:Bool}(k:Nat)(ht:eQ P t=some (bb,sz))(hx:bA l x=some (.ptr id 0))(h2:M[k]? =some (id,.box e ls))(hy:bA l y=some u)(hf:mr u=some cells)(hc:cells.all cK=true)(hl:cells.length=sz)(hls:ls.length=sz)(jd:M.set k (id,.box e cells)=aL)(hk:∀u,K u aL):DS P n ops H0 ⟨dst,.store t x y,ty,ps,af,none⟩ l M K:=DS.kW U U ht hx h2 hls hy hf hc hl jd hk
theorem D.str{m:Nat}{bb:Bool}(k:Nat)(ht:eQ P t=some (bb,sz))(hx:bA l x=some (.ptr id off))(h2:M[k]? =some (id,.row e sz rows))(hoff:off=m*sz)(hi:m<rows.length)(hy:bA l y=some u)(hf:mr u=some cells)(hc:cells.all cK=true)(hl:cells.length=sz)(hrows:∀cs∈rows,cs.length=sz)
 (hk:∀u,K u (M.set k (id,.row e sz (rows.set m cells)))) (hz:0<sz:=by decide):DS P n ops H0 ⟨dst,.store t x y,ty,ps,af,none⟩ l M K:=DS.xN U U hx h2 hoff hi hy hf hc ht hl hz hrows hk
theorem D.ap{s:Operand}{len:Nat}(k:Nat)(ht:kC P t e sz b)(hs:bA l s=some (.own id 0 len sz))(h2:M[k]? =some (id,.row e sz rows))(hle:len<=rows.length)(hx:bA l x=some u)(hsrc:xR M sz u news)(hb:(len+news.length)*b<=140737488355328)(hr:rows.take len++news=rws)
 (hk:∀id',K (.own id' 0 (len+news.length) sz) ((id',.row e sz rws)::M.eraseIdx k)):DS P n ops H0 ⟨dst,.call {callee:=.builtin .append,args:= #[s,x],argTypes:= #[t,t]},ty,ps,af,none⟩ l M K:=DS.jD U U ht hs h2 hle hx hsrc hb hr hk
theorem D.Yy{s:Operand}(ht:kC P t e sz b)(hs:bA l s=some (.v (.slice none 0 0)))(hx:bA l x=some u)(hsrc:xR M sz u news)(hb:news.length*b<=140737488355328)
 (hk:∀id',K (.own id' 0 news.length sz) ((id',.row e sz news)::M)):DS P n ops H0 ⟨dst,.call {callee:=.builtin .append,args:= #[s,x],argTypes:= #[t,t]},ty,ps,af,none⟩ l M K:=DS.append_nil U U ht hs hx hsrc hb hk
theorem D.rg(ht:P.underlying t=some .string)(hx:bA l x=some (.v (.string p)))(hk:∀id,K (.ptr id 0) ((id,.iter p 0)::M)):DS P n ops H0 ⟨dst,.range t x,ty,ps,af,none⟩ l M K:=
 λaD=>Does.LY U U ht (aJ hx) λid hid=>⟨(id,.iter p 0)::M,rfl,.cons hid aD,hk id⟩
theorem D.nx{pos:Nat}(k:Nat)(hx:bA l x=some (.ptr id 0))(h2:M[k]? =some (id,.iter p pos))(hlt:pos<p.size)(jd:M.set k (id,.iter p (pos+(Utf8.decode p pos).2))=aL)
 (hk:K (.dH [.v (.bool true),.v (.int .i64 pos),.v (.int .i32 (Utf8.decode p pos).1)]) aL):DS P n ops H0 ⟨dst,.next x true,ty,ps,af,none⟩ l M K:=by
 subst jd
 exactλaD=>Does.NH U U (aJ hx) (aD.at_ h2) hlt ⟨_,(aD.kg _ h2).1,(aD.kg _ h2).2,hk⟩
theorem D.WZ{pos:Nat}(k:Nat)(hx:bA l x=some (.ptr id 0))(h2:M[k]? =some (id,.iter p pos))(hlt:¬pos<p.size)(hk:K (.dH [.v (.bool false)]) M):DS P n ops H0 ⟨dst,.next x true,ty,ps,af,none⟩ l M K:=
 λaD=>Does.LZ U U (aJ hx) (aD.at_ h2) hlt ⟨M,rfl,aD,hk⟩
theorem D.ib(ht:P.underlying t=some .string)(hx:bA l x=some (.v (.string p)))(hy:bA l y=some (.v (.int ki i)))(h0:0<=i)(h1:i<p.size)(hk:0<=aO p i/\aO p i<256->K (.v (.int .u8 (aO p i))) M):DS P n ops H0 ⟨dst,.index t x y,ty,ps,af,none⟩ l M K:=D.qu (Z.is ht hx hy h0 h1) (hk (gG _ _))
theorem D.nxs{pos:Nat}(k:Nat)(hx:bA l x=some (.ptr id 0))(h2:M[k]? =some (id,.iter p pos))(jd:M.set k (id,.iter p (pos+(Utf8.decode p pos).2))=aL)
 (hk:pos<p.size->K (.dH [.v (.bool true),.v (.int .i64 pos),.v (.int .i32 (Utf8.decode p pos).1)]) aL) (hk2:¬pos<p.size->K (.dH [.v (.bool false)]) M):DS P n ops H0 ⟨dst,.next x true,ty,ps,af,none⟩ l M K:=by
 by_cases h:pos<p.size
 ·exact D.nx k hx h2 h jd (hk h)
 ·exact D.WZ k hx h2 h (hk2 h)
theorem kV.X9{len:Nat}(h0:0<=i)(hy:bA l y=some (.v (.int ki i))):kV l len none (some y) 0 i.toNat:=.hi (by rw[hy,Int.toNat_of_nonneg h0])
theorem pM{jv:List (List AV)}(h:(jv.all λcs=>cs.length==sz)=true):∀cs∈jv,cs.length=sz:=λcs hcs=>by simpa using List.all_eq_true.1 h cs hcs
theorem D.cn{cc:Operand}{args:Array Operand}{at_:Array TypeId}{dD:List AV}{R:AV->List (Nat×Ob)->Prop}(hc:bA l cc=some (.lW f dD))(ha:gD l args.toList=some us)
 (h:aK H0 M->F P f (us++dD) (aB H0 M) (λu H'=>∃news,aK (aB H0 M) news/\H'=aB (aB H0 M) news/\R u news)) (hk:∀u news,R u news->K u (news++M)):DS P n ops H0 ⟨dst,.call {callee:=.value cc,args:=args,argTypes:=at_},ty,ps,af,none⟩ l M K:=DS.qW U U hc ha h hk
theorem S.sq(h:UW P n (ku (AW P n c2 Q) Q) H0 c1 l M):UW P n Q H0 (.seq c1 c2) l M:=UW.seq h
theorem S.rg{ol:List Oper}(h:US P n ol.toArray Q H0 ol l M):UW P n Q H0 (.region id ol.toArray false) l M:=UW.region h
theorem S.cT{cc:Operand}{bb:Bool}(hc:bA l cc=some (.v (.bool bb)))(hb:bb=true)(h:UW P n Q H0 c1 l M):UW P n Q H0 (.cond cc c1 c2) l M:=UW.cond hc (λ_=>h) (λh0=>by rw[hb] at h0;cases h0)
theorem S.cF{cc:Operand}{bb:Bool}(hc:bA l cc=some (.v (.bool bb)))(hb:bb=false)(h:UW P n Q H0 c2 l M):UW P n Q H0 (.cond cc c1 c2) l M:=UW.cond hc (λh0=>by rw[hb] at h0;cases h0) (λ_=>h)
theorem S.cD{cc:Operand}{p:Prop}[Decidable p](hc:bA l cc=some (.v (.bool (decide p))))(ht:p->UW P n Q H0 c1 l M)(hf:¬p->UW P n Q H0 c2 l M):UW P n Q H0 (.cond cc c1 c2) l M:=UW.cond hc (λh=>ht (of_decide_eq_true h)) (λh=>hf (of_decide_eq_false h))
theorem S.cB{cc:Operand}{bb:Bool}(hc:bA l cc=some (.v (.bool bb)))(ht:bb=true->UW P n Q H0 c1 l M)(hf:bb=false->UW P n Q H0 c2 l M):UW P n Q H0 (.cond cc c1 c2) l M:=UW.cond hc ht hf
theorem US.qY(d:Nat){u':AV}(hl:look l d=some u)(he:u=u')(hk:US P n ops Q H0 rest ((d,u')::l) M):US P n ops Q H0 rest l M:=US.slot d hl (by rw[he];exact dw.drop (λ_ _ h=>h) _) hk
theorem S.tD(d:Nat){p:Prop}[Decidable p](ht:p->US P n ops Q H0 rest ((d,.v (.bool true))::l) M)(hf:¬p->US P n ops Q H0 rest ((d,.v (.bool false))::l) M)(hl:look l d=some (.v (.bool (decide p))):=by rfl):US P n ops Q H0 rest l M:=by
 by_cases h:p
 ·exact US.qY d hl (by simp[h]) (ht h)
 ·exact US.qY d hl (by simp[h]) (hf h)
theorem S.tB(d:Nat){bb:Bool}(ht:bb=true->US P n ops Q H0 rest ((d,.v (.bool true))::l) M)(hf:bb=false->US P n ops Q H0 rest ((d,.v (.bool false))::l) M)(hl:look l d=some (.v (.bool bb)):=by rfl):US P n ops Q H0 rest l M:=by
 cases bb with
 |true=>exact US.qY d hl U (ht U)
 |false=>exact US.qY d hl U (hf U)
theorem cZ{α:Type}[BEq α][LawfulBEq α]{x y:α}(h:x=y):(x==y)=true:=by simp[h]
theorem bf{α:Type}[BEq α][LawfulBEq α]{x y:α}(h:¬x=y):(x==y)=false:=by simpa using h
theorem jM{α:Type}[BEq α][LawfulBEq α]{x y:α}(h:¬x=y):(x !=y)=true:=by simpa using h
theorem fE{α:Type}[BEq α][LawfulBEq α]{x y:α}(h:x=y):(x !=y)=false:=by simp[h]
section
variable {α:Type} [BEq α] [LawfulBEq α] {X ai:α}
theorem S.cE{cc:Operand}(hc:bA l cc=some (.v (.bool (X==ai))))(ht:X=ai->UW P n Q H0 c1 l M)(hf:¬X=ai->UW P n Q H0 c2 l M):UW P n Q H0 (.cond cc c1 c2) l M:=UW.cond hc (λh=>ht (by simpa using h)) (λh=>hf (by simpa using h))
theorem S.cO{cc:Operand}(hc:bA l cc=some (.v (.bool (X !=ai))))(ht:¬X=ai->UW P n Q H0 c1 l M)(hf:X=ai->UW P n Q H0 c2 l M):UW P n Q H0 (.cond cc c1 c2) l M:=UW.cond hc (λh=>ht (by simpa using h)) (λh=>hf (by simpa using h))
theorem S.tE(d:Nat)(ht:X=ai->US P n ops Q H0 rest ((d,.v (.bool true))::l) M)(hf:¬X=ai->US P n ops Q H0 rest ((d,.v (.bool false))::l) M)(hl:look l d=some (.v (.bool (X==ai))):=by rfl):US P n ops Q H0 rest l M:=by
 by_cases h:X=ai
 ·exact US.qY d hl (by simp[h]) (ht h)
 ·exact US.qY d hl (by simp[h]) (hf h)
theorem S.tO(d:Nat)(ht:¬X=ai->US P n ops Q H0 rest ((d,.v (.bool true))::l) M)(hf:X=ai->US P n ops Q H0 rest ((d,.v (.bool false))::l) M)(hl:look l d=some (.v (.bool (X !=ai))):=by rfl):US P n ops Q H0 rest l M:=by
 by_cases h:X=ai
 ·exact US.qY d hl (by simp[h]) (hf h)
 ·exact US.qY d hl (by simp[h]) (ht h)
end
theorem S.tT(d:Nat){bb:Bool}(hb:bb=true)(hk:US P n ops Q H0 rest ((d,.v (.bool true))::l) M)(hl:look l d=some (.v (.bool bb)):=by rfl):US P n ops Q H0 rest l M:=US.qY d hl (by rw[hb]) hk
theorem S.tF(d:Nat){bb:Bool}(hb:bb=false)(hk:US P n ops Q H0 rest ((d,.v (.bool false))::l) M)(hl:look l d=some (.v (.bool bb)):=by rfl):US P n ops Q H0 rest l M:=US.qY d hl (by rw[hb]) hk
theorem S.eq(d:Nat){u':AV}(he:u=u')(hk:US P n ops Q H0 rest ((d,u')::l) M)(hl:look l d=some u:=by rfl):US P n ops Q H0 rest l M:=US.qY d hl he hk
inductive vJ (P:Program) (T:Sl) (H:Hp):List ResultVar->List AV->Prop
 |nil:vJ P T H [] []
 |cons {r:ResultVar} {v:AV} {rs:List ResultVar} {vs:List AV} (h:vB P T H r v) (ht:vJ P T H rs vs):vJ P T H (r::rs) (v::vs)
theorem je{T:Sl}{H:Hp}:vJ P T H [] []:=.nil
theorem bL{T:Sl}{H:Hp}{r:ResultVar}{v:AV}{rs:List ResultVar}{vs:List AV}(h:vB P T H r v)(ht:vJ P T H rs vs):vJ P T H (r::rs) (v::vs):=.cons h ht
theorem vJ.all{T:Sl}{H:Hp}{rs:List ResultVar}{vs:List AV}(h:vJ P T H rs vs):rs.length=vs.length/\∀(j:Nat) r v,rs[j]? =some r->vs[j]? =some v->vB P T H r v:=by
 induction h with
 |nil=>exact⟨rfl,λj r v a=>by simp at a⟩
 |cons h ht ih=>
  refine⟨by simp[ih.1],λj r v a b=>?_⟩
  cases j with
  |zero=>simp at a b;subst a b;exact h
  |succ j=>exact ih.2 j r v (by simpa using a) (by simpa using b)
theorem jS{fn:Func}{rs:List ResultVar}(hf:fn.results=rs.toArray)(hl:rs.length≠1)(hn:rs.length=us.length)(h:vJ P (gz l) (aB H0 M) rs us):LP P (gz l) (aB H0 M) fn (.dH us):=
 .inr ⟨rs,us,hf,hl,rfl,hn,h.all.2⟩
theorem S.rt{fn:Func}{K':AV->Hp->Prop}(hr:aK H0 M->LP P (gz l) (aB H0 M) fn u)(hk:K' u H0):UQ (Ny P fn K') H0 .ret l M:=bD [] hr (List.nil_sublist _) λ_=>hk
theorem S.bG{fn:Func}{r:AV}(hr:aK H0 M->LP P (gz l) (aB H0 M) fn u)(hu:u=r):UQ (Ny P fn (bn H0 r)) H0 .ret l M:=S.rt hr ⟨hu,rfl⟩
theorem Z.kw{keep:List (Nat×Ob)}(j:Nat)(hK:Has keep M)(ht:eQ P t=some (true,sz))(hx:bA l x=some (.ptr id 0))(h2:keep[j]? =some (id,.box e ls))(hl:ls.length=sz):QS P n ops H0 ⟨dst,.load t x,ty,ps,af,none⟩ l M (.agg ls):=by
 obtain⟨k,hk⟩:=hK.get h2
 exact Z.bg k ht hx hk hl
theorem Z.kc{keep:List (Nat×Ob)}(j:Nat)(hK:Has keep M)(ht:eQ P t=some (false,sz))(hx:bA l x=some (.ptr id off))(h2:keep[j]? =some (id,.box e ls))(hr:ls[off]? =some u):QS P n ops H0 ⟨dst,.load t x,ty,ps,af,none⟩ l M u:=by
 obtain⟨k,hk⟩:=hK.get h2
 exact Z.dQ k ht hx hk hr
theorem Q.mv(hx:bA l x=some u)(hk:US P n ops Q H0 rest ((d,u)::l) M)(hn:d<n:=by decide):US P n ops Q H0 (⟨some d,.move x,ty,ps,af,none⟩::rest) l M:=S.qu (Z.mv hx) hk hn
theorem Q.as(hx:bA l x=some u)(hk:US P n ops Q H0 rest ((d,u)::l) M)(hn:d<n:=by decide):US P n ops Q H0 (⟨some d,.assign x,ty,ps,af,none⟩::rest) l M:=S.qu (Z.as hx) hk hn
theorem Q.pk{bb:Bool}{cc:Operand}(hc:bA l cc=some (.v (.bool bb)))(hr:(if bb then bA l x else bA l y)=some r)(hk:US P n ops Q H0 rest ((d,r)::l) M)(hn:d<n:=by decide):US P n ops Q H0 (⟨some d,.pick cc x y,ty,ps,af,none⟩::rest) l M:=S.qu (Z.pick hc hr) hk hn
theorem Q.bi{op:BinOp}{vr:Value}(hx:bA l x=some (.v (.int ki a)))(hy:bA l y=some (.v (.int ki a')))(h:fu op ki a a'=some vr)(hk:US P n ops Q H0 rest ((d,.v vr)::l) M)(hn:d<n:=by decide):US P n ops Q H0 (⟨some d,.binOp op t x y t2,ty,ps,af,none⟩::rest) l M:=S.qu (Z.bi hx hy h) hk hn
theorem Q.lc(k:Nat)(ht:eQ P t=some (false,sz))(hx:bA l x=some (.ptr id off))(h2:M[k]? =some (id,.box e ls))(hr:ls[off]? =some u)(hk:US P n ops Q H0 rest ((d,u)::l) M)(hn:d<n:=by decide):US P n ops Q H0 (⟨some d,.load t x,ty,ps,af,none⟩::rest) l M:=S.qu (Z.dQ k ht hx h2 hr) hk hn
theorem Q.fa{fl off':Nat}(h:dM P t fl=some off')(hx:bA l x=some (.ptr id off))(hk:US P n ops Q H0 rest ((d,.ptr id (off+off'))::l) M)(hn:d<n:=by decide):US P n ops Q H0 (⟨some d,.fieldAddr t x fl,ty,ps,af,none⟩::rest) l M:=S.qu (Z.fa h hx) hk hn
theorem Q.of{bb b2:Bool}(hk:US P n ops Q H0 rest ((d,.v undef)::l) M)(hdg:(ops[g]?).bind (·.dst)=some f:=by rfl)(hT:look l f=some (.v (.bool b2)):=by rfl)(hb:b2=!bb:=by rfl)(hn:d<n:=by decide):US P n ops Q H0 (⟨some d,op,ty,ps,af,some (g,bb)⟩::rest) l M:=S.qu (Z.of hdg hT hb) hk hn
theorem Q.ou{bb:Bool}(hk:US P n ops Q H0 rest ((d,.v undef)::l) M)(hdg:(ops[g]?).bind (·.dst)=some f:=by rfl)(hT:look l f=some (.v undef):=by rfl)(hn:d<n:=by decide):US P n ops Q H0 (⟨some d,op,ty,ps,af,some (g,bb)⟩::rest) l M:=S.qu (Z.Nn hdg hT) hk hn
theorem Q.on{bb:Bool}(h:QS P n ops H0 ⟨some d,op,ty,ps,af,none⟩ l M u)(hk:US P n ops Q H0 rest ((d,u)::l) M)(hdg:(ops[g]?).bind (·.dst)=some f:=by rfl)(hdn:f<n:=by decide)(hT:look l f=some (.v (.bool bb)):=by rfl)(hn:d<n:=by decide):US P n ops Q H0 (⟨some d,op,ty,ps,af,some (g,bb)⟩::rest) l M:=S.qu (Z.on h hdg hdn hT) hk hn
theorem Q.nt(h:UW P n Q H0 c l M):US P n ops (ku (AW P n c Q) Q) H0 [] l M:=US.nil (UQ.then h)
theorem Q.rg{ol:List Oper}(h:US P n ol.toArray (ku (AW P n c2 Q) Q) H0 ol l M):UW P n Q H0 (.seq (.region id ol.toArray false) c2) l M:=S.sq (S.rg h)
end
end
end Go.gW
end
section
namespace Go.Proofs.YtbooeongacgnbaaGreatDoor
open Go Go.gW Go.RowKit
inductive V where
 |mk (k n:Int) (t:ByteArray) (ks:List ByteArray) (vs:List V)
namespace V
def k:V->Int| .mk k _ _ _ _=>k
def n:V->Int| .mk _ n _ _ _=>n
def t:V->ByteArray| .mk _ _ t _ _=>t
def ks:V->List ByteArray| .mk _ _ _ ks _=>ks
def vs:V->List V| .mk _ _ _ _ vs=>vs
end V
def encS(s:ByteArray):List AV:=[.v (.string s)]
def strs(l:List ByteArray):AV:=.sl (l.map encS)
mutual
def aN:V->List AV
 | .mk k n t ks vs=>[.v (.int .i64 k),.v (.int .i64 n),.v (.string t),.sl (ks.map encS),.sl (bE vs)]
def bE:List V->List (List AV)
 |[]=>[]
 |x::r=>aN x::bE r
end
theorem dY:∀l:List V,bE l=l.map aN
 |[]=>by simp[bE]
 |x::r=>by simp[bE,dY r]
theorem ak(x:V):(aN x).length=5:=by cases x;simp[aN]
theorem aH(x:V):(aN x).all cK=true:=by cases x;simp[aN,cK,Value.oneCell']
section types
theorem Ea:eQ Tryz.prog 2=some (false,1):=by kernel_rfl
theorem bC:eQ Tryz.prog 3=some (false,1):=by kernel_rfl
theorem ty4:eQ Tryz.prog 4=some (false,1):=by kernel_rfl
theorem L6:eQ Tryz.prog 5=some (false,1):=by kernel_rfl
theorem fJ:eQ Tryz.prog 9=some (false,1):=by kernel_rfl
theorem iE:eQ Tryz.prog 24=some (false,1):=by kernel_rfl
theorem dm:eQ Tryz.prog 25=some (false,1):=by kernel_rfl
theorem ay:eQ Tryz.prog 27=some (true,5):=by kernel_rfl
theorem y9:eQ Tryz.prog 22=some (false,1):=by kernel_rfl
theorem bS:lY Tryz.prog 24=some (9,1,16):=by kernel_rfl
theorem bR:lY Tryz.prog 25=some (27,5,80):=by kernel_rfl
theorem jf:lY Tryz.prog 22=some (5,1,1):=by kernel_rfl
theorem NJ:lY Tryz.prog 90=some (3,1,8):=by kernel_rfl
theorem z3:(Tryz.prog.info? 3).map (·.zero)=some (some (.int .i64 0)):=by kernel_rfl
theorem z5:(Tryz.prog.info? 5).map (·.zero)=some (some (.int .u8 0)):=by kernel_rfl
theorem z9:(Tryz.prog.info? 9).map (·.zero)=some (some (.string ⟨#[]⟩)):=by kernel_rfl
theorem z27:(Tryz.prog.info? 27).map (·.zero)=some (some (.agg #[.int .i64 0,.int .i64 0,.string ⟨#[]⟩,.slice none 0 0,.slice none 0 0])):=by kernel_rfl
theorem iM:kC Tryz.prog 24 9 1 16:=⟨bS,⟨_,z9,rfl,rfl⟩,by decide,by decide⟩
theorem iw:kC Tryz.prog 25 27 5 80:=⟨bR,⟨_,z27,rfl,rfl⟩,by decide,by decide⟩
theorem iT:kC Tryz.prog 22 5 1 1:=⟨jf,⟨_,z5,rfl,rfl⟩,by decide,by decide⟩
theorem K4:kC Tryz.prog 90 3 1 8:=⟨NJ,⟨_,z3,rfl,rfl⟩,by decide,by decide⟩
theorem eO:dM Tryz.prog 27 0=some 0:=by kernel_rfl
theorem jT:dM Tryz.prog 27 1=some 1:=by kernel_rfl
theorem qZ:dM Tryz.prog 27 2=some 2:=by kernel_rfl
theorem dU:dM Tryz.prog 27 3=some 3:=by kernel_rfl
theorem bQ:dM Tryz.prog 27 4=some 4:=by kernel_rfl
theorem dh:lD Tryz.prog 27=some ([.int .i64 0,.int .i64 0,.string ⟨#[]⟩,.slice none 0 0,.slice none 0 0],[(0,1),(1,1),(2,1),(3,1),(4,1)]):=by kernel_rfl
theorem bH:∃fs,Tryz.prog.underlying 27=some (.struct fs):=⟨_,Tryz.underlying27⟩
theorem bI:(Tryz.prog.info? 27).map (·.size)=some 5:=by kernel_rfl
end types
end Go.Proofs.YtbooeongacgnbaaGreatDoor
end
