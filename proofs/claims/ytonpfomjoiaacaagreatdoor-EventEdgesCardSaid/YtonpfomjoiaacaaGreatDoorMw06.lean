/- A part of the proof. -/
import Derived.Test.YtonpfomjoiaacaaGreatDoorMw05
set_option maxRecDepth 100000
set_option maxHeartbeats 4000000
set_option linter.unusedSectionVars false
set_option linter.unusedVariables false
set_option linter.unusedSimpArgs false
section
namespace Go.iG
open Go Go.RowKit
section
variable [Rd]
section
variable {P:Program} {n:Nat} {ops:Array Oper} {H0:Hp} {l:List (Nat×AV)} {I:List (Nat×Ob)} {o:Oper}
variable {x y:Operand} {u:AV} {t e sz b:Nat} {id k:Nat} {cells:List AV} {rows:List (List AV)}
theorem QS.move(hg:o.guard=none)(ho:o.op=.move x)(hx:aW l x=some u):QS P n ops H0 o l I u:=λ_=>Does.move hg ho ⟨aG hx,rfl⟩
theorem QS.assign(hg:o.guard=none)(ho:o.op=.assign x)(hx:aW l x=some u):QS P n ops H0 o l I u:=λ_=>Does.assign hg ho ⟨aG hx,rfl⟩
theorem QS.dV{ls:List AV}(hg:o.guard=none)(ho:o.op=.load t x)(ht:eQ P t=some (true,sz))(hx:aW l x=some (.ptr id 0))(h2:I[k]? =some (id,.box e ls))(hl:ls.length=sz):QS P n ops H0 o l I (.agg ls):=
 λay=>Does.wB hg ho (aG hx) (ay.at_ h2) ht (by simp[cellsOf,hl]) ⟨by rw[<-hl];simp[cellsOf],rfl⟩
theorem QS.aJ{off:Nat}{ls:List AV}(hg:o.guard=none)(ho:o.op=.load t x)(ht:eQ P t=some (false,sz))(hx:aW l x=some (.ptr id off))(h2:I[k]? =some (id,.box e ls))(hr:ls[off]? =some u):QS P n ops H0 o l I u:=
 λay=>Does.pI hg ho (aG hx) (ay.at_ h2) ht hr ⟨rfl,rfl⟩
theorem QS.nz{off:Nat}{ls rs:List AV}(hg:o.guard=none)(ho:o.op=.load t x)(ht:eQ P t=some (true,sz))(hx:aW l x=some (.ptr id off))(h2:I[k]? =some (id,.box e ls))(hr:EM ls off sz=some rs):QS P n ops H0 o l I (.agg rs):=
 λay=>Does.wB hg ho (aG hx) (ay.at_ h2) ht (Ed hr).2 ⟨by rw[<-(Ed hr).1];rfl,rfl⟩
theorem QS.gp(hg:o.guard=none)(ho:o.op=.load t x)(hx:aW l x=some (.rp cells))(ht:eQ P t=some (true,sz))(hl:cells.length=sz):QS P n ops H0 o l I (.agg cells):=
 λ_=>Does.gp hg ho (aG hx) (by rw[hl];exact ht) ⟨rfl,rfl⟩
theorem QS.bI{r:List AV}(hg:o.guard=none)(ho:o.op=.load t x)(hx:aW l x=some (.rp (u::r)))(ht:eQ P t=some (false,sz)):QS P n ops H0 o l I u:=
 λ_=>Does.bI hg ho (aG hx) ht ⟨rfl,rfl⟩
theorem QS.MS{off:Nat}{cs:List AV}(hg:o.guard=none)(ho:o.op=.load t x)(ht:eQ P t=some (false,sz))(hx:aW l x=some (.ptr id off))(h2:I[k]? =some (id,.row e 1 rows)){i:Nat}(hoff:off=i*1)(hrows:∀cs∈rows,cs.length=1)(hi:rows[i]? =some (u::cs)):QS P n ops H0 o l I u:=by
 intro ay
 refine Does.pI hg ho (aG hx) (ay.at_ h2) ht ?_ ⟨rfl,rfl⟩
 have h1:=iA 1 (by decide) rows hrows i _ 0 hi (by decide)
 show rows.flatten[off]? =some u
 rw[hoff]
 simpa using h1
theorem QS.fieldAddr{f off off':Nat}(hg:o.guard=none)(ho:o.op=.fieldAddr t x f)(hx:aW l x=some (.ptr id off))(h:dP P t f=some off'):QS P n ops H0 o l I (.ptr id (off+off')):=λ_=>Does.fieldAddr hg ho (aG hx) h ⟨rfl,rfl⟩
theorem QS.yU{f off':Nat}{ls:List AV}(hg:o.guard=none)(ho:o.op=.field t x f)(hx:aW l x=some (.agg ls))(h:uj P t f=some (off',false,sz))(hu:ls[off']? =some u):QS P n ops H0 o l I u:=λ_=>Does.yU hg ho (aG hx) h hu ⟨rfl,rfl⟩
theorem QS.bM{ki:IntKind}{i:Int}{cs:List AV}(hg:o.guard=none)(ho:o.op=.indexAddr t x y)(ht:lu P t=some (e,sz,b))(hx:aW l x=some (.sl rows))(hy:aW l y=some (.v (.int ki i)))(h0:0<=i)(h1:rows[i.toNat]? =some cs)(hs:cs.length=sz):QS P n ops H0 o l I (.rp cs):=λ_=>Does.bM hg ho ht (aG hx) (aG hy) h0 h1 hs ⟨rfl,rfl⟩
theorem QS.sG{ki:IntKind}{i:Int}{off len:Nat}(hg:o.guard=none)(ho:o.op=.indexAddr t x y)(ht:lu P t=some (e,sz,b))(hx:aW l x=some (.own id off len sz))(hy:aW l y=some (.v (.int ki i)))(h0:0<=i)(h1:i<len):QS P n ops H0 o l I (.ptr id ((off+i.toNat)*sz)):=λ_=>Does.sG hg ho ht (aG hx) (aG hy) h0 h1 ⟨rfl,rfl⟩
theorem QS.bD{ki:IntKind}{i c:Int}{str:ByteArray}(hg:o.guard=none)(ho:o.op=.index t x y)(ht:P.underlying t=some .string)(hx:aW l x=some (.v (.string str)))(hy:aW l y=some (.v (.int ki i)))(h0:0<=i)(h1:i<str.size)(hcc:c=((str[i.toNat]'(by omega)).toNat:Int)):QS P n ops H0 o l I (.v (.int .u8 c)):=λ_=>Does.bD hg ho ht (aG hx) (aG hy) h0 h1 hcc ⟨rfl,rfl⟩
theorem QS.qd{lo hi:Option Operand}{a a':Nat}{rs:List (List AV)}(hg:o.guard=none)(ho:o.op=.slice t x lo hi none)(ht:lu P t=some (e,sz,b))(hx:aW l x=some (.sl rows))(hs:∀cs∈rows,cs.length=sz)(hb:mD l rows.length lo hi a a')(h1:a<=a')(h2:a'<=rows.length)(hr:(rows.take a').drop a=rs):QS P n ops H0 o l I (.sl rs):=λ_=>Does.qd hg ho ht (aG hx) hs hb.to h1 h2 ⟨by rw[hr],rfl⟩
theorem QS.kR{lo hi:Option Operand}{a a' off len:Nat}(hg:o.guard=none)(ho:o.op=.slice t x lo hi none)(ht:lu P t=some (e,sz,b))(hx:aW l x=some (.own id off len sz))(hb:mD l len lo hi a a')(h1:a<=a')(h2:a'<=len):QS P n ops H0 o l I (.own id (off+a) (a'-a) sz):=λ_=>Does.kR hg ho ht (aG hx) hb.to h1 h2 ⟨rfl,rfl⟩
theorem QS.pK{lo hi:Option Operand}{a a':Nat}{str:ByteArray}(hg:o.guard=none)(ho:o.op=.slice t x lo hi none)(ht:P.underlying t=some .string)(hx:aW l x=some (.v (.string str)))(hb:mD l str.size lo hi a a')(h1:a<=a')(h2:a'<=str.size):QS P n ops H0 o l I (.v (.string (str.extract a a'))):=λ_=>Does.pK hg ho ht (aG hx) hb.to h1 h2 ⟨rfl,rfl⟩
theorem QS.gq(hg:o.guard=none)(ho:o.op=.call {callee:=.builtin .len,args:= #[x],argTypes:= #[t]})(ht:lu P t=some (e,sz,b))(hx:aW l x=some (.sl rows)):QS P n ops H0 o l I (.v (.int .i64 (rows.length:Int))):=λ_=>Does.gq hg ho ht (aG hx) ⟨rfl,rfl⟩
theorem QS.iQ{off len:Nat}(hg:o.guard=none)(ho:o.op=.call {callee:=.builtin .len,args:= #[x],argTypes:= #[t]})(ht:lu P t=some (e,sz,b))(hx:aW l x=some (.own id off len sz)):QS P n ops H0 o l I (.v (.int .i64 (len:Int))):=λ_=>Does.iQ hg ho ht (aG hx) ⟨rfl,rfl⟩
theorem QS.len_nil(hg:o.guard=none)(ho:o.op=.call {callee:=.builtin .len,args:= #[x],argTypes:= #[t]})(ht:lu P t=some (e,sz,b))(hx:aW l x=some (.v (.slice none 0 0))):QS P n ops H0 o l I (.v (.int .i64 0)):=λ_=>Does.len_nil hg ho ht (aG hx) ⟨rfl,rfl⟩
theorem QS.rE{str:ByteArray}(hg:o.guard=none)(ho:o.op=.call {callee:=.builtin .len,args:= #[x],argTypes:= #[t]})(ht:P.underlying t=some .string)(hx:aW l x=some (.v (.string str))):QS P n ops H0 o l I (.v (.int .i64 (str.size:Int))):=λ_=>Does.rE hg ho ht (aG hx) ⟨rfl,rfl⟩
theorem QS.aA{op:BinOp}{t2:Nat}{ki:IntKind}{a c:Int}{r:Value}(hg:o.guard=none)(ho:o.op=.binOp op t x y t2)(hx:aW l x=some (.v (.int ki a)))(hy:aW l y=some (.v (.int ki c)))(h:eT op ki a c=some r):QS P n ops H0 o l I (.v r):=λ_=>Does.aA hg ho (aG hx) (aG hy) h ⟨rfl,rfl⟩
theorem QS.add{t2:Nat}{ki:IntKind}{a c r:Int}(hg:o.guard=none)(ho:o.op=.binOp .add t x y t2)(hx:aW l x=some (.v (.int ki a)))(hy:aW l y=some (.v (.int ki c)))(hr:ki.wrap (a+c)=r):QS P n ops H0 o l I (.v (.int ki r)):=QS.aA hg ho hx hy (by rw[<-hr];rfl)
theorem QS.sub{t2:Nat}{ki:IntKind}{a c r:Int}(hg:o.guard=none)(ho:o.op=.binOp .sub t x y t2)(hx:aW l x=some (.v (.int ki a)))(hy:aW l y=some (.v (.int ki c)))(hr:ki.wrap (a-c)=r):QS P n ops H0 o l I (.v (.int ki r)):=QS.aA hg ho hx hy (by rw[<-hr];rfl)
theorem QS.mul{t2:Nat}{ki:IntKind}{a c r:Int}(hg:o.guard=none)(ho:o.op=.binOp .mul t x y t2)(hx:aW l x=some (.v (.int ki a)))(hy:aW l y=some (.v (.int ki c)))(hr:ki.wrap (a*c)=r):QS P n ops H0 o l I (.v (.int ki r)):=QS.aA hg ho hx hy (by rw[<-hr];rfl)
theorem QS.jl{op:BinOp}{t2:Nat}{a c:ByteArray}{r:Bool}(hg:o.guard=none)(ho:o.op=.binOp op t x y t2)(hx:aW l x=some (.v (.string a)))(hy:aW l y=some (.v (.string c)))(h:fe op a c=some r):QS P n ops H0 o l I (.v (.bool r)):=λ_=>Does.jl hg ho (aG hx) (aG hy) h ⟨rfl,rfl⟩
theorem QS.JM{t2:Nat}{a c:ByteArray}(hg:o.guard=none)(ho:o.op=.binOp .add t x y t2)(hx:aW l x=some (.v (.string a)))(hy:aW l y=some (.v (.string c)))(h:a.size+c.size<=9223372036854775807):QS P n ops H0 o l I (.v (.string (a++c))):=λ_=>Does.JM hg ho (aG hx) (aG hy) h ⟨rfl,rfl⟩
theorem QS.U1{t2:Nat}{a c:Bool}(hg:o.guard=none)(ho:o.op=.binOp .eql t x y t2)(ht:P.underlying t=some .bool)(hx:aW l x=some (.v (.bool a)))(hy:aW l y=some (.v (.bool c))):QS P n ops H0 o l I (.v (.bool (a==c))):=λ_=>Does.JN hg ho ht (aG hx) (aG hy) ⟨rfl,rfl⟩
theorem QS.not{a:Bool}(hg:o.guard=none)(ho:o.op=.unOp .not t x)(hx:aW l x=some (.v (.bool a))):QS P n ops H0 o l I (.v (.bool (!a))):=λ_=>Does.not hg ho (aG hx) ⟨rfl,rfl⟩
theorem QS.conv{s2:Nat}{ki kj:IntKind}{a r:Int}(hg:o.guard=none)(ho:o.op=.convert t s2 x)(hs:(P.underlying t).isSome=true)(ht:P.underlying s2=some (.int kj))(hx:aW l x=some (.v (.int ki a)))(hr:kj.wrap a=r):QS P n ops H0 o l I (.v (.int kj r)):=λ_=>Does.Am hg ho hs ht (aG hx) ⟨by rw[hr],rfl⟩
theorem QS.min2{at_:Array TypeId}{ki kj:IntKind}{a c:Int}(hg:o.guard=none)(ho:o.op=.call {callee:=.builtin .min,args:= #[x,y],argTypes:=at_})(hx:aW l x=some (.v (.int ki a)))(hy:aW l y=some (.v (.int kj c))):QS P n ops H0 o l I (.v (.int ki (if c<a then c else a))):=λ_=>Does.min2 hg ho (aG hx) (aG hy) ⟨rfl,rfl⟩
theorem QS.build{parts:Array (Nat×Operand)}{zs:List Value}{places:List (Nat×Nat)}{us MU rs:List AV}{ky:List (List AV)}(iC:List Nat)(hg:o.guard=none)(ho:o.op=.build t parts)(ht:oJ P t=some (zs,places))(hz:zs.all (·.oneCell')=true)(hv:vals zs=some MU)
 (ha:iM l (parts.toList.map (·.2))=some us) (hf:mF us=some ky) (hc:(ky.all λcs=>cs.all aT)=true) (hp:lv places (parts.toList.map (·.1)) iC (ky.map (·.length))=true) (hr:Ar MU iC ky=some rs):QS P n ops H0 o l I (.agg rs):=by
 intro _
 have e1:=j4 ha
 have e2:=ny hf
 have e3:=EN hr
 have e4:(parts.toList.map λp=>ev (gD l) p.2)=us:=by rw[<-e1,List.map_map];rfl
 have hul:us.length=parts.toList.length:=by rw[<-e4,List.length_map]
 have husl:ky.length=us.length:=by rw[<-e2,List.length_map]
 refine Does.build iC hg ho ht hz (by rw[e3.2.1,husl,hul]) (λj p off h1 h2=>?_) ⟨?_,rfl⟩
 ·have h3:us[j]? =some (ev (gD l) p.2):=by rw[<-e4,List.getElem?_map,h1];rfl
  have h4:ky[j]? =some (flat (ev (gD l) p.2)):=by rw[<-e2,List.getElem?_map,h3];rfl
  refine⟨List.all_eq_true.1 hc _ (List.mem_of_getElem? h4),?_,?_⟩
  ·exact Au hp j p.1 off _ (by rw[List.getElem?_map,h1];rfl) h2 (by rw[List.getElem?_map,h4];rfl)
  ·have h5:=e3.2.2 j off _ h2 h4
   rw[<-rG hv,List.length_map] at h5
   exact h5
 ·rw[e4,e2,rG hv,e3.1]
theorem QS.qh{len:Nat}{parts:Array (Nat×Operand)}{us:List AV}{ky:List (List AV)}(hg:o.guard=none)(ho:o.op=.buildSlice t len parts)(ht:kg P t e sz b)(hl:len*sz<=2^24)
 (hp:parts.toList.map (·.1)=List.range len) (ha:iM l (parts.toList.map (·.2))=some us) (hf:mF us=some ky) (hc:∀cs∈ky,cs.all aT=true/\cs.length=sz):QS P n ops H0 o l I (.sl ky):=by
 intro _
 have e1:=j4 ha
 have e2:=ny hf
 have e4:(parts.toList.map λp=>flat (ev (gD l) p.2))=ky:=by rw[<-e2,<-e1,List.map_map,List.map_map];rfl
 exact Does.yJ hg ho ht hl hp (λp hp'=>hc _ (by rw[<-e4];exact List.mem_map_of_mem (f:=λp=>flat (ev (gD l) p.2)) hp')) ⟨by rw[e4],rfl⟩
def bB(H:Hp)(r:AV)(u:AV)(H':Hp):Prop:=u=r/\H'=H
theorem QS.call{f:Nat}{cc:Operand}{args:Array Operand}{at_:Array TypeId}{df us:List AV}{r:AV}(hg:o.guard=none)(ho:o.op=.call {callee:=.value cc,args:=args,argTypes:=at_})(hc:aW l cc=some (.iF f df))(ha:iM l args.toList=some us)
 (h:aP H0 I->au P f (us++df) (aD H0 I) (bB (aD H0 I) r)):QS P n ops H0 o l I r:=
 λay=>Does.call hg ho (aG hc) (by rw[j4 ha];exact h ay)
theorem QS.on{g:Nat×Bool}{dg:Nat}(hg:o.guard=some g)(hdg:(ops[g.1]?).bind (·.dst)=some dg)(hdn:dg<n)(hT:look l dg=some (.v (.bool g.2)))(h:QS P n ops H0 {o with guard:=none} l I u):QS P n ops H0 o l I u:=λay=>
 Does.RA (h ay) hg hdg hdn (by unfold gD;rw[hT];rfl)
theorem QS.EK{g:Nat×Bool}{dg:Nat}{bb:Bool}(hg:o.guard=some g)(hdg:(ops[g.1]?).bind (·.dst)=some dg)(hT:look l dg=some (.v (.bool bb)))(hb:bb=!g.2):QS P n ops H0 o l I (.v undef):=by
 intro ay a w ρ h1 h2 h3 h4 N Q hN
 have h5:=h4 dg
 have h6:gD l dg=.v (.bool bb):=by unfold gD;rw[hT];rfl
 rw[h6] at h5
 have h7:=aV h5
 have h8:a.tmps[dg]? =none\/a.tmps[dg]? =some (a.tmps.getD dg undef):=by
  rw[Array.getD_eq_getD_getElem?]
  cases h:a.tmps[dg]? <;>simp
 rw[h7] at h8
 have hw:¬Region.wanted o (yielded ops a.tmps)=true:=by
  rcases h8 with h8|h8<;>cases hgb:g.2<;>simp[Region.wanted,hg,yielded,hdg,h8,hb,hgb]
 rw[if_neg hw]
 exact hN undef w ρ _ _ h3 (Ext.refl _ _ _) (.v undef) ⟨rfl,rfl⟩
theorem QS.yK{g:Nat×Bool}{dg:Nat}(hg:o.guard=some g)(hdg:(ops[g.1]?).bind (·.dst)=some dg)(hT:look l dg=some (.v undef)):QS P n ops H0 o l I (.v undef):=by
 intro ay a w ρ h1 h2 h3 h4 N Q hN
 have h5:=h4 dg
 have h6:gD l dg=.v undef:=by unfold gD;rw[hT];rfl
 rw[h6] at h5
 have h7:=aV h5
 have h8:a.tmps[dg]? =none\/a.tmps[dg]? =some (a.tmps.getD dg undef):=by
  rw[Array.getD_eq_getD_getElem?]
  cases h:a.tmps[dg]? <;>simp
 rw[h7] at h8
 have hw:¬Region.wanted o (yielded ops a.tmps)=true:=by
  rcases h8 with h8|h8<;>simp[Region.wanted,hg,yielded,hdg,h8,undef]
 rw[if_neg hw]
 exact hN undef w ρ _ _ h3 (Ext.refl _ _ _) (.v undef) ⟨rfl,rfl⟩
theorem US.qs{Q:sN->Sl->Hp->Prop}{rest:List Oper}{d:Nat}(hd:o.dst=some d)(hn:d<n)(h:QS P n ops H0 o l I u)(hk:US P n ops Q H0 rest ((d,u)::l) I):US P n ops Q H0 (o::rest) l I:=
 US.step hd hn λay=>(h ay).mono λu' H' ⟨h1,h2⟩=>⟨I,h2,ay,by rw[h1];exact hk⟩
theorem QS.pick{c:Operand}{bb:Bool}{r:AV}(hg:o.guard=none)(ho:o.op=.pick c x y)(hc:aW l c=some (.v (.bool bb)))(hr:(if bb then aW l x else aW l y)=some r):QS P n ops H0 o l I r:=λ_=>Does.pick hg ho (aG hc) ⟨by cases bb<;>exact aG hr,rfl⟩
def QF(P:Program)(n:Nat)(ops:Array Oper)(H0:Hp)(o:Oper)(l:List (Nat×AV))(u:AV):Prop:=∀I,QS P n ops H0 o l I u
theorem QF.move(hg:o.guard=none)(ho:o.op=.move x)(hx:aW l x=some u):QF P n ops H0 o l u:=λI=>QS.move hg ho hx
theorem QF.fieldAddr{f off off':Nat}(hg:o.guard=none)(ho:o.op=.fieldAddr t x f)(hx:aW l x=some (.ptr id off))(h:dP P t f=some off'):QF P n ops H0 o l (.ptr id (off+off')):=λI=>QS.fieldAddr hg ho hx h
theorem QF.bM{ki:IntKind}{i:Int}{cs:List AV}(hg:o.guard=none)(ho:o.op=.indexAddr t x y)(ht:lu P t=some (e,sz,b))(hx:aW l x=some (.sl rows))(hy:aW l y=some (.v (.int ki i)))(h0:0<=i)(h1:rows[i.toNat]? =some cs)(hs:cs.length=sz):QF P n ops H0 o l (.rp cs):=λI=>QS.bM hg ho ht hx hy h0 h1 hs
theorem QF.qd{lo hi:Option Operand}{a a':Nat}{rs:List (List AV)}(hg:o.guard=none)(ho:o.op=.slice t x lo hi none)(ht:lu P t=some (e,sz,b))(hx:aW l x=some (.sl rows))(hs:∀cs∈rows,cs.length=sz)(hb:mD l rows.length lo hi a a')(h1:a<=a')(h2:a'<=rows.length)(hr:(rows.take a').drop a=rs):QF P n ops H0 o l (.sl rs):=λI=>QS.qd hg ho ht hx hs hb h1 h2 hr
theorem QF.kR{lo hi:Option Operand}{a a' off len:Nat}(hg:o.guard=none)(ho:o.op=.slice t x lo hi none)(ht:lu P t=some (e,sz,b))(hx:aW l x=some (.own id off len sz))(hb:mD l len lo hi a a')(h1:a<=a')(h2:a'<=len):QF P n ops H0 o l (.own id (off+a) (a'-a) sz):=λI=>QS.kR hg ho ht hx hb h1 h2
theorem QF.jl{op:BinOp}{t2:Nat}{a c:ByteArray}{r:Bool}(hg:o.guard=none)(ho:o.op=.binOp op t x y t2)(hx:aW l x=some (.v (.string a)))(hy:aW l y=some (.v (.string c)))(h:fe op a c=some r):QF P n ops H0 o l (.v (.bool r)):=λI=>QS.jl hg ho hx hy h
def app:List (Nat×AV)->List (Nat×AV)->List (Nat×AV)
 |[],l=>l
 |p::r,l=>p::app r l
def bS:List (Option (Nat×AV))->List (Nat×AV)->List (Nat×AV)
 |[],l=>l
 |none::r,l=>bS r l
 |some p::r,l=>bS r (p::l)
theorem U2:∀(a b:List (Nat×AV)),app a b=a++b
 |[],_=>rfl
 |p::r,b=>by rw[app,U2 r b];rfl
theorem JR:∀(a:List (Option (Nat×AV))) (b:List (Nat×AV)),bS a b=(a.filterMap λq=>q).reverse++b
 |[],_=>rfl
 |none::r,b=>by rw[bS,JR r b];rfl
 |some p::r,b=>by rw[bS,JR r (p::b)];simp
section
variable {ol:List Oper} {Q:sN->Sl->Hp->Prop} {B cs k1:List Nat} {pre r:List (Option (Nat×AV))} {cr:List (Nat×AV)} {i c d:Nat} {u':AV} {keep:List (Nat×Ob)}
theorem UW.bG{O9:Nat}(hm:P.follows .mixedOrders=true)(B:List Nat)(ds:List (Option Nat))(pre:List (Option (Nat×AV)))(cs k1:List Nat)(hpre:(pre.map λo=>o.map (·.1))=ds)(he:mH B ol 0=true)(hch:uu B ds cs k1 (dstsOf ol)=true)
 (hq:M P n ol H0 I B k1 pre l [] pre 0) (hk:CH P n ol Q H0 B pre l [] cs [] I):UW P n Q H0 (.region O9 ol.toArray true) l I:=UW.draw hm B pre cs k1 he (by rw[hpre];exact hch) hq hk
def pick{α:Type}(r:List α):List Nat->List α
 |[]=>[]
 |k::ks=>match r[k]? with
  |some p=>p::pick r ks
  |none=>pick r ks
theorem UW.rO{O9:Nat}(hm:P.follows .mixedOrders=true)(kp:List Nat)(B:List Nat)(ds:List (Option Nat))(pre:List (Option (Nat×AV)))(cs k1:List Nat)(hpre:(pre.map λo=>o.map (·.1))=ds)(he:mH B ol 0=true)(hch:uu B ds cs k1 (dstsOf ol)=true)
 (hq:M P n ol H0 I B k1 pre l (pick I kp) pre 0) (hk:CH P n ol Q H0 B pre l (pick I kp) cs [] I):UW P n Q H0 (.region O9 ol.toArray true) l I:=UW.draw hm B pre cs k1 he (by rw[hpre];exact hch) hq hk
theorem SG{i j:Nat}{a b:Ob}{r:List (Nat×Ob)}(h:i≠j):aD H0 ((i,a)::(j,b)::r)=aD H0 ((j,b)::(i,a)::r):=by
 funext k
 simp only[aD,set]
 by_cases hi:k=i
 ·by_cases hj:k=j
  ·omega
  ·simp[hi,h]
 ·simp[hi]
theorem SH{i j:Nat}{a b:Ob}{r:List (Nat×Ob)}(h:aP H0 ((i,a)::(j,b)::r)):i≠j/\aP H0 ((j,b)::(i,a)::r):=by
 cases h with
 |cons h1 h2=>
  cases h2 with
  |cons h3 h4=>
   have hij:i≠j:=λe=>by subst e;simp[aD] at h1
   have h5:aD H0 r i=none:=by
    have h1':=h1
    simp only[aD] at h1'
    rw[dZ _ _ hij] at h1'
    exact h1'
   refine⟨hij,.cons ?_ (.cons h5 h4)⟩
   simp only[aD]
   rw[dZ _ _ (Ne.symm hij)]
   exact h3
theorem UQ.swap{Q:sN->Sl->Hp->Prop}{e:sN}{l:List (Nat×AV)}{p q:Nat×Ob}{r:List (Nat×Ob)}(h:UQ Q H0 e l (q::p::r)):UQ Q H0 e l (p::q::r):=λhd=>by
 obtain⟨h1,h2⟩:=SH hd
 rw[SG h1]
 exact h h2
theorem UW.U3{O9:Nat}(hm:P.follows .mixedOrders=true)(kp:List Nat)(B:List Nat)(ds:List (Option Nat))(pre:List (Option (Nat×AV)))(cs cs2 k1:List Nat)(hpre:(pre.map λo=>o.map (·.1))=ds)(he:mH B ol 0=true)(hch:Aw B ds cs k1 (dstsOf ol)=true)(hch2:Aw B ds cs2 k1 (dstsOf ol)=true)(hh:Pb B [cs,cs2]=true)
 (hq:M P n ol H0 I B k1 pre l (pick I kp) pre 0) (hk:CH P n ol Q H0 B pre l (pick I kp) cs [] I) (hk2:CH P n ol Q H0 B pre l (pick I kp) cs2 [] I):UW P n Q H0 (.region O9 ol.toArray true) l I:=by
 subst hpre
 refine UW.draws hm B pre [cs,cs2] cs k1 (by simp) he (λc hc=>?_) (λc hc=>?_) (Pd hh) hq (λc hc=>?_)
 ·rcases List.mem_cons.1 hc with rfl|hc
  ·exact jv.ofW hch
  ·rw[List.mem_singleton.1 hc];exact jv.ofW hch2
 ·rcases List.mem_cons.1 hc with rfl|hc
  ·exact ordW hch
  ·rw[List.mem_singleton.1 hc];exact ordW hch2
 ·rcases List.mem_cons.1 hc with rfl|hc
  ·exact hk
  ·rw[List.mem_singleton.1 hc];exact hk2
theorem M.nil:M P n ol H0 I B k1 pre l keep [] i:=trivial
theorem M.skip(h:M P n ol H0 I B k1 pre l keep r (i+1)):M P n ol H0 I B k1 pre l keep (none::r) i:=h
theorem M.free(hn:d<n)(ho:ol[i]? =some o)(hk:k1.contains i=false)(hq:QF P n ol.toArray H0 o (oh B (dstsOf ol) pre [] l i) u)(h:M P n ol H0 I B k1 pre l keep r (i+1)):M P n ol H0 I B k1 pre l keep (some (d,u)::r) i:=
 ⟨⟨hn,o,ho,by rw[if_neg (by simpa using hk)];exactλI _=>hq I⟩,h⟩
def QK(P:Program)(n:Nat)(ops:Array Oper)(H0:Hp)(o:Oper)(l:List (Nat×AV))(keep:List (Nat×Ob))(u:AV):Prop:=∀I,Has keep I->QS P n ops H0 o l I u
theorem M.kept(hn:d<n)(ho:ol[i]? =some o)(hk:k1.contains i=false)(hq:QK P n ol.toArray H0 o (oh B (dstsOf ol) pre [] l i) keep u)(h:M P n ol H0 I B k1 pre l keep r (i+1)):M P n ol H0 I B k1 pre l keep (some (d,u)::r) i:=
 ⟨⟨hn,o,ho,by rw[if_neg (by simpa using hk)];exact hq⟩,h⟩
theorem M.held(hn:d<n)(ho:ol[i]? =some o)(hk:k1.contains i=true)(hq:QS P n ol.toArray H0 o (oh B (dstsOf ol) pre [] l i) I u)(h:M P n ol H0 I B k1 pre l keep r (i+1)):M P n ol H0 I B k1 pre l keep (some (d,u)::r) i:=
 ⟨⟨hn,o,ho,by rw[if_pos (by simpa using hk)];exact hq⟩,h⟩
def DS(P:Program)(n:Nat)(ops:Array Oper)(H0:Hp)(o:Oper)(l:List (Nat×AV))(I:List (Nat×Ob))(K:AV->List (Nat×Ob)->Prop):Prop:=
 aP H0 I->Does P n ops o (gD l) (aD H0 I) (λu H'=>∃aM,H'=aD H0 aM/\aP H0 aM/\K u aM)
theorem CH.nil(h:UQ Q H0 .normal (app cr (bS pre l)) I)(hs:Has keep I:=by exact .n):CH P n ol Q H0 B pre l keep [] cr I:=by
 rw[U2,JR] at h;exact⟨hs,h⟩
theorem CH.cons(ho:ol[c]? =some o)(hd:o.dst=some d)(hn:d<n)(h:DS P n ol.toArray H0 o (oh B (dstsOf ol) pre cr l c) I (λu aM=>CH P n ol Q H0 B pre l keep cs ((d,u)::cr) aM))(hs:Has keep I:=by exact .n):CH P n ol Q H0 B pre l keep (c::cs) cr I:=
 ⟨hs,o,ho,λd' hd'=>(by rw[hd] at hd';cases hd';exact hn),by rw[hd];exact h⟩
theorem CH.bX(ho:ol[c]? =some o)(hd:o.dst=none)(h:DS P n ol.toArray H0 o (oh B (dstsOf ol) pre cr l c) I (λ_ aM=>CH P n ol Q H0 B pre l keep cs cr aM))(hs:Has keep I:=by exact .n):CH P n ol Q H0 B pre l keep (c::cs) cr I:=
 ⟨hs,o,ho,λd' hd'=>(by rw[hd] at hd';cases hd'),by rw[hd];exact h⟩
end
section
variable {K:AV->List (Nat×Ob)->Prop} {off:Nat}
theorem DS.qs(h:QS P n ops H0 o l I u)(hk:K u I):DS P n ops H0 o l I K:=λay=>(h ay).mono λ_ _ ⟨h1,h2⟩=>⟨I,h2,ay,by rw[h1];exact hk⟩
theorem DS.gu{ls ls':List AV}{aM:List (Nat×Ob)}{bb:Bool}(hg:o.guard=none)(ho:o.op=.store t x y)(ht:eQ P t=some (bb,sz))(hx:aW l x=some (.ptr id off))(h2:I[k]? =some (id,.box e ls))(hy:aW l y=some u)(hf:qf u=some cells)(hc:cells.all aT=true)
 (hl:cells.length=sz) (hr:wD ls off cells=some ls') (ji:I.set k (id,.box e ls')=aM) (hk:∀u,K u aM):DS P n ops H0 o l I K:=by
 subst ji
 exactλay=>Does.pJ hg ho (aG hx) (ay.at_ h2) (by rw[aG hy,fU hf];exact hc) (by rw[aG hy,fU hf,hl];exact ht) (by rw[aG hy,fU hf];exact(uq hr).2)
  ⟨_,by rw[aG hy,fU hf,(uq hr).1];exact(ay.ku _ h2).1,(ay.ku _ h2).2,hk _⟩
theorem DS.dw{ls:List AV}{aM:List (Nat×Ob)}{bb:Bool}(hg:o.guard=none)(ho:o.op=.store t x y)(ht:eQ P t=some (bb,sz))(hx:aW l x=some (.ptr id 0))(h2:I[k]? =some (id,.box e ls))(hls:ls.length=sz)(hy:aW l y=some u)(hf:qf u=some cells)(hc:cells.all aT=true)
 (hl:cells.length=sz) (ji:I.set k (id,.box e cells)=aM) (hk:∀u,K u aM):DS P n ops H0 o l I K:=by
 subst ji
 exactλay=>Does.pJ hg ho (aG hx) (ay.at_ h2) (by rw[aG hy,fU hf];exact hc) (by rw[aG hy,fU hf,hl];exact ht) (by rw[aG hy,fU hf,hls];omega)
  ⟨_,by rw[aG hy,fU hf,yX cells ls (by rw[hl,hls])];exact(ay.ku _ h2).1,(ay.ku _ h2).2,hk _⟩
theorem DS.BQ{i:Nat}{bb:Bool}(hg:o.guard=none)(ho:o.op=.store t x y)(hx:aW l x=some (.ptr id off))(h2:I[k]? =some (id,.row e sz rows))(hoff:off=i*sz)(hi:i<rows.length)(hy:aW l y=some u)(hf:qf u=some cells)(hc:cells.all aT=true)
 (ht:eQ P t=some (bb,sz)) (hl:cells.length=sz) (hz:0<sz) (hrows:∀cs∈rows,cs.length=sz)
 (hk:∀u,K u (I.set k (id,.row e sz (rows.set i cells)))):DS P n ops H0 o l I K:=
 λay=>Does.BQ (rows.set i cells) hg ho (aG hx) (ay.at_ h2) (by rw[aG hy,fU hf];exact hc) (by rw[aG hy,fU hf,hl];exact ht)
  (by rw[aG hy,fU hf,hl,hoff,eG sz _ hrows,<-Nat.succ_mul];exact Nat.mul_le_mul_right _ hi)
  (by rw[aG hy,fU hf,hoff];exact MK sz hz rows hrows i cells hi hl) (by simp) (λcs hcs=>by
    rcases List.mem_or_eq_of_mem_set hcs with h1|h1
    ·exact hrows cs h1
    ·rw[h1,hl])
  ⟨_,(ay.ku _ h2).1,(ay.ku _ h2).2,hk _⟩
theorem DS.iI{s:Operand}{len:Nat}{news rs:List (List AV)}(hg:o.guard=none)(ho:o.op=.call {callee:=.builtin .append,args:= #[s,x],argTypes:= #[t,t]})(ht:kg P t e sz b)
 (hs:aW l s=some (.own id 0 len sz)) (h2:I[k]? =some (id,.row e sz rows)) (hle:len<=rows.length) (hx:aW l x=some u) (hsrc:uo I sz u news) (hb:(len+news.length)*b<=140737488355328) (hr:rows.take len++news=rs)
 (hk:∀id',K (.own id' 0 (len+news.length) sz) ((id',.row e sz rs)::I.eraseIdx k)):DS P n ops H0 o l I K:=
 λay=>by
  have qg:=ay.kill h2
  refine Does.iI hg ho ht (aG hs) (ay.at_ h2) hle (by rw[aG hx];exact hsrc.to ay) hb λid' hid=>⟨(id',.row e sz rs)::I.eraseIdx k,?_,?_,hk id'⟩
  ·rw[qg.1,hr];rfl
  ·refine .cons ?_ qg.2
   rw[<-qg.1]
   by_cases h:id'=id
   ·subst h;simp
   ·rw[dZ _ _ h];exact hid
theorem DS.append_nil{s:Operand}{news:List (List AV)}(hg:o.guard=none)(ho:o.op=.call {callee:=.builtin .append,args:= #[s,x],argTypes:= #[t,t]})(ht:kg P t e sz b)
 (hs:aW l s=some (.v (.slice none 0 0))) (hx:aW l x=some u) (hsrc:uo I sz u news) (hb:news.length*b<=140737488355328)
 (hk:∀id',K (.own id' 0 news.length sz) ((id',.row e sz news)::I)):DS P n ops H0 o l I K:=
 λay=>Does.append_nil hg ho ht (aG hs) (by rw[aG hx];exact hsrc.to ay) hb λid' hid=>⟨_,rfl,.cons hid ay,hk id'⟩
theorem DS.call{f:Nat}{cc:Operand}{args:Array Operand}{at_:Array TypeId}{df us:List AV}{J:AV->Hp->Prop}(hg:o.guard=none)(ho:o.op=.call {callee:=.value cc,args:=args,argTypes:=at_})(hc:aW l cc=some (.iF f df))(ha:iM l args.toList=some us)
 (h:aP H0 I->au P f (us++df) (aD H0 I) J) (hk:∀u H',J u H'->∃aM,H'=aD H0 aM/\(aP H0 I->aP H0 aM)/\K u aM):DS P n ops H0 o l I K:=
 λay=>Does.call hg ho (aG hc) (by
  rw[j4 ha]
  exact(h ay).mono λu H' hK=>by
   obtain⟨aM,e1,e2,e3⟩:=hk u H' hK
   exact⟨aM,e1,e2 ay,e3⟩)
theorem sZ:∀(news I:List (Nat×Ob)),aD (aD H0 I) news=aD H0 (news++I)
 |[],_=>rfl
 |(i,ob)::r,I=>by show set _ _ _=set _ _ _;rw[sZ r I];rfl
theorem aP.app{I:List (Nat×Ob)}(ay:aP H0 I):∀{news:List (Nat×Ob)},aP (aD H0 I) news->aP H0 (news++I)
 |_,.nil=>ay
 |_,.cons h1 h2=> .cons ((congrFun (sZ (H0:=H0) _ I) _).symm.trans h1) (aP.app ay h2)
theorem DS.mE{f:Nat}{cc:Operand}{args:Array Operand}{at_:Array TypeId}{df us:List AV}{R:AV->List (Nat×Ob)->Prop}(hg:o.guard=none)(ho:o.op=.call {callee:=.value cc,args:=args,argTypes:=at_})(hc:aW l cc=some (.iF f df))(ha:iM l args.toList=some us)
 (h:aP H0 I->au P f (us++df) (aD H0 I) (λu H'=>∃news,aP (aD H0 I) news/\H'=aD (aD H0 I) news/\R u news)) (hk:∀u news,R u news->K u (news++I)):DS P n ops H0 o l I K:=
 DS.call hg ho hc ha h (λu H' ⟨news,h1,h2,h3⟩=>⟨news++I,by rw[h2,sZ],λay=>ay.app h1,hk u news h3⟩)
theorem DS.on{g:Nat×Bool}{dg:Nat}(hg:o.guard=some g)(hdg:(ops[g.1]?).bind (·.dst)=some dg)(hdn:dg<n)(hT:look l dg=some (.v (.bool g.2)))(h:DS P n ops H0 {o with guard:=none} l I K):DS P n ops H0 o l I K:=λay=>
 Does.RA (h ay) hg hdg hdn (by unfold gD;rw[hT];rfl)
end
theorem US.pick{Q:sN->Sl->Hp->Prop}{rest:List Oper}{d:Nat}{c:Operand}{bb:Bool}{r:AV}(hd:o.dst=some d)(hn:d<n)(hg:o.guard=none)(ho:o.op=.pick c x y)(hc:aW l c=some (.v (.bool bb)))(hr:(if bb then aW l x else aW l y)=some r)(hk:US P n ops Q H0 rest ((d,r)::l) I):US P n ops Q H0 (o::rest) l I:=
 US.qs hd hn (QS.pick hg ho hc hr) hk
theorem US.min2'{Q:sN->Sl->Hp->Prop}{rest:List Oper}{d:Nat}{at_:Array TypeId}{ki kj:IntKind}{a c r:Int}(hd:o.dst=some d)(hn:d<n)(hg:o.guard=none)(ho:o.op=.call {callee:=.builtin .min,args:= #[x,y],argTypes:=at_})(hx:aW l x=some (.v (.int ki a)))(hy:aW l y=some (.v (.int kj c)))(hr:(if c<a then c else a)=r)
 (hk:US P n ops Q H0 rest ((d,.v (.int ki r))::l) I):US P n ops Q H0 (o::rest) l I:=US.min2 hd hn hg ho hx hy (by rw[hr];exact hk)
end
end
end Go.iG
end
