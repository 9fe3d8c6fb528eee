/- A part of the proof. -/
import Derived.Test.YtbooeongacgnbaaGreatDoorMw05
import Derived.Laws.RangeAny
import Derived.Lib.Bytealg
set_option maxRecDepth 100000
set_option maxHeartbeats 4000000
set_option linter.unusedSectionVars false
set_option linter.unusedVariables false
set_option linter.unusedSimpArgs false
section
namespace Go.gW
open Go Go.RowKit
section
variable [Rd]
section
variable {P:Program} {n:Nat} {ops:Array Oper} {H0:Hp} {l:List (Nat×AV)} {M:List (Nat×Ob)} {o:Oper}
variable {x y:Operand} {u:AV} {t e sz b:Nat} {id k:Nat} {cells:List AV} {rows:List (List AV)}
theorem QS.move(hg:o.guard=none)(ho:o.op=.move x)(hx:bA l x=some u):QS P n ops H0 o l M u:=λ_=>Does.move hg ho ⟨aJ hx,rfl⟩
theorem QS.assign(hg:o.guard=none)(ho:o.op=.assign x)(hx:bA l x=some u):QS P n ops H0 o l M u:=λ_=>Does.assign hg ho ⟨aJ hx,rfl⟩
theorem QS.oQ{ls:List AV}(hg:o.guard=none)(ho:o.op=.load t x)(ht:eQ P t=some (true,sz))(hx:bA l x=some (.ptr id 0))(h2:M[k]? =some (id,.box e ls))(hl:ls.length=sz):QS P n ops H0 o l M (.agg ls):=
 λaD=>Does.vC hg ho (aJ hx) (aD.at_ h2) ht (by simp[cellsOf,hl]) ⟨by rw[<-hl];simp[cellsOf],rfl⟩
theorem QS.D6{off:Nat}{ls:List AV}(hg:o.guard=none)(ho:o.op=.load t x)(ht:eQ P t=some (false,sz))(hx:bA l x=some (.ptr id off))(h2:M[k]? =some (id,.box e ls))(hr:ls[off]? =some u):QS P n ops H0 o l M u:=
 λaD=>Does.Ch hg ho (aJ hx) (aD.at_ h2) ht hr ⟨rfl,rfl⟩
theorem QS.iR(hg:o.guard=none)(ho:o.op=.load t x)(hx:bA l x=some (.rp cells))(ht:eQ P t=some (true,sz))(hl:cells.length=sz):QS P n ops H0 o l M (.agg cells):=
 λ_=>Does.iR hg ho (aJ hx) (by rw[hl];exact ht) ⟨rfl,rfl⟩
theorem QS.eZ{r:List AV}(hg:o.guard=none)(ho:o.op=.load t x)(hx:bA l x=some (.rp (u::r)))(ht:eQ P t=some (false,sz)):QS P n ops H0 o l M u:=
 λ_=>Does.eZ hg ho (aJ hx) ht ⟨rfl,rfl⟩
theorem QS.fieldAddr{f off off':Nat}(hg:o.guard=none)(ho:o.op=.fieldAddr t x f)(hx:bA l x=some (.ptr id off))(h:dM P t f=some off'):QS P n ops H0 o l M (.ptr id (off+off')):=λ_=>Does.fieldAddr hg ho (aJ hx) h ⟨rfl,rfl⟩
theorem QS.dN{ki:IntKind}{i:Int}{cs:List AV}(hg:o.guard=none)(ho:o.op=.indexAddr t x y)(ht:lY P t=some (e,sz,b))(hx:bA l x=some (.sl rows))(hy:bA l y=some (.v (.int ki i)))(h0:0<=i)(h1:rows[i.toNat]? =some cs)(hs:cs.length=sz):QS P n ops H0 o l M (.rp cs):=λ_=>Does.dN hg ho ht (aJ hx) (aJ hy) h0 h1 hs ⟨rfl,rfl⟩
theorem QS.oq{ki:IntKind}{i:Int}{off len:Nat}(hg:o.guard=none)(ho:o.op=.indexAddr t x y)(ht:lY P t=some (e,sz,b))(hx:bA l x=some (.own id off len sz))(hy:bA l y=some (.v (.int ki i)))(h0:0<=i)(h1:i<len):QS P n ops H0 o l M (.ptr id ((off+i.toNat)*sz)):=λ_=>Does.oq hg ho ht (aJ hx) (aJ hy) h0 h1 ⟨rfl,rfl⟩
theorem QS.bz{ki:IntKind}{i c:Int}{str:ByteArray}(hg:o.guard=none)(ho:o.op=.index t x y)(ht:P.underlying t=some .string)(hx:bA l x=some (.v (.string str)))(hy:bA l y=some (.v (.int ki i)))(h0:0<=i)(h1:i<str.size)(hcc:c=((str[i.toNat]'(by omega)).toNat:Int)):QS P n ops H0 o l M (.v (.int .u8 c)):=λ_=>Does.bz hg ho ht (aJ hx) (aJ hy) h0 h1 hcc ⟨rfl,rfl⟩
theorem QS.mo{lo hi:Option Operand}{a a':Nat}{rs:List (List AV)}(hg:o.guard=none)(ho:o.op=.slice t x lo hi none)(ht:lY P t=some (e,sz,b))(hx:bA l x=some (.sl rows))(hs:∀cs∈rows,cs.length=sz)(hb:kV l rows.length lo hi a a')(h1:a<=a')(h2:a'<=rows.length)(hr:(rows.take a').drop a=rs):QS P n ops H0 o l M (.sl rs):=λ_=>Does.mo hg ho ht (aJ hx) hs hb.to h1 h2 ⟨by rw[hr],rfl⟩
theorem QS.xP{lo hi:Option Operand}{a a' off len:Nat}(hg:o.guard=none)(ho:o.op=.slice t x lo hi none)(ht:lY P t=some (e,sz,b))(hx:bA l x=some (.own id off len sz))(hb:kV l len lo hi a a')(h1:a<=a')(h2:a'<=len):QS P n ops H0 o l M (.own id (off+a) (a'-a) sz):=λ_=>Does.xP hg ho ht (aJ hx) hb.to h1 h2 ⟨rfl,rfl⟩
theorem QS.lZ{lo hi:Option Operand}{a a':Nat}{str:ByteArray}(hg:o.guard=none)(ho:o.op=.slice t x lo hi none)(ht:P.underlying t=some .string)(hx:bA l x=some (.v (.string str)))(hb:kV l str.size lo hi a a')(h1:a<=a')(h2:a'<=str.size):QS P n ops H0 o l M (.v (.string (str.extract a a'))):=λ_=>Does.lZ hg ho ht (aJ hx) hb.to h1 h2 ⟨rfl,rfl⟩
theorem QS.lC(hg:o.guard=none)(ho:o.op=.call {callee:=.builtin .len,args:= #[x],argTypes:= #[t]})(ht:lY P t=some (e,sz,b))(hx:bA l x=some (.sl rows)):QS P n ops H0 o l M (.v (.int .i64 (rows.length:Int))):=λ_=>Does.lC hg ho ht (aJ hx) ⟨rfl,rfl⟩
theorem QS.vD{off len:Nat}(hg:o.guard=none)(ho:o.op=.call {callee:=.builtin .len,args:= #[x],argTypes:= #[t]})(ht:lY P t=some (e,sz,b))(hx:bA l x=some (.own id off len sz)):QS P n ops H0 o l M (.v (.int .i64 (len:Int))):=λ_=>Does.vD hg ho ht (aJ hx) ⟨rfl,rfl⟩
theorem QS.len_nil(hg:o.guard=none)(ho:o.op=.call {callee:=.builtin .len,args:= #[x],argTypes:= #[t]})(ht:lY P t=some (e,sz,b))(hx:bA l x=some (.v (.slice none 0 0))):QS P n ops H0 o l M (.v (.int .i64 0)):=λ_=>Does.len_nil hg ho ht (aJ hx) ⟨rfl,rfl⟩
theorem QS.nG{str:ByteArray}(hg:o.guard=none)(ho:o.op=.call {callee:=.builtin .len,args:= #[x],argTypes:= #[t]})(ht:P.underlying t=some .string)(hx:bA l x=some (.v (.string str))):QS P n ops H0 o l M (.v (.int .i64 (str.size:Int))):=λ_=>Does.nG hg ho ht (aJ hx) ⟨rfl,rfl⟩
theorem QS.aG{op:BinOp}{t2:Nat}{ki:IntKind}{a c:Int}{r:Value}(hg:o.guard=none)(ho:o.op=.binOp op t x y t2)(hx:bA l x=some (.v (.int ki a)))(hy:bA l y=some (.v (.int ki c)))(h:fu op ki a c=some r):QS P n ops H0 o l M (.v r):=λ_=>Does.aG hg ho (aJ hx) (aJ hy) h ⟨rfl,rfl⟩
theorem QS.add{t2:Nat}{ki:IntKind}{a c r:Int}(hg:o.guard=none)(ho:o.op=.binOp .add t x y t2)(hx:bA l x=some (.v (.int ki a)))(hy:bA l y=some (.v (.int ki c)))(hr:ki.wrap (a+c)=r):QS P n ops H0 o l M (.v (.int ki r)):=QS.aG hg ho hx hy (by rw[<-hr];rfl)
theorem QS.sub{t2:Nat}{ki:IntKind}{a c r:Int}(hg:o.guard=none)(ho:o.op=.binOp .sub t x y t2)(hx:bA l x=some (.v (.int ki a)))(hy:bA l y=some (.v (.int ki c)))(hr:ki.wrap (a-c)=r):QS P n ops H0 o l M (.v (.int ki r)):=QS.aG hg ho hx hy (by rw[<-hr];rfl)
theorem QS.mul{t2:Nat}{ki:IntKind}{a c r:Int}(hg:o.guard=none)(ho:o.op=.binOp .mul t x y t2)(hx:bA l x=some (.v (.int ki a)))(hy:bA l y=some (.v (.int ki c)))(hr:ki.wrap (a*c)=r):QS P n ops H0 o l M (.v (.int ki r)):=QS.aG hg ho hx hy (by rw[<-hr];rfl)
theorem QS.kQ{op:BinOp}{t2:Nat}{a c:ByteArray}{r:Bool}(hg:o.guard=none)(ho:o.op=.binOp op t x y t2)(hx:bA l x=some (.v (.string a)))(hy:bA l y=some (.v (.string c)))(h:fB op a c=some r):QS P n ops H0 o l M (.v (.bool r)):=λ_=>Does.kQ hg ho (aJ hx) (aJ hy) h ⟨rfl,rfl⟩
theorem QS.DV{t2:Nat}{a c:ByteArray}(hg:o.guard=none)(ho:o.op=.binOp .add t x y t2)(hx:bA l x=some (.v (.string a)))(hy:bA l y=some (.v (.string c)))(h:a.size+c.size<=9223372036854775807):QS P n ops H0 o l M (.v (.string (a++c))):=λ_=>Does.DV hg ho (aJ hx) (aJ hy) h ⟨rfl,rfl⟩
theorem QS.NG{t2:Nat}{a c:Bool}(hg:o.guard=none)(ho:o.op=.binOp .eql t x y t2)(ht:P.underlying t=some .bool)(hx:bA l x=some (.v (.bool a)))(hy:bA l y=some (.v (.bool c))):QS P n ops H0 o l M (.v (.bool (a==c))):=λ_=>Does.DW hg ho ht (aJ hx) (aJ hy) ⟨rfl,rfl⟩
theorem QS.not{a:Bool}(hg:o.guard=none)(ho:o.op=.unOp .not t x)(hx:bA l x=some (.v (.bool a))):QS P n ops H0 o l M (.v (.bool (!a))):=λ_=>Does.not hg ho (aJ hx) ⟨rfl,rfl⟩
theorem QS.conv{s2:Nat}{ki kj:IntKind}{a r:Int}(hg:o.guard=none)(ho:o.op=.convert t s2 x)(hs:(P.underlying t).isSome=true)(ht:P.underlying s2=some (.int kj))(hx:bA l x=some (.v (.int ki a)))(hr:kj.wrap a=r):QS P n ops H0 o l M (.v (.int kj r)):=λ_=>Does.vF hg ho hs ht (aJ hx) ⟨by rw[hr],rfl⟩
theorem QS.min2{at_:Array TypeId}{ki kj:IntKind}{a c:Int}(hg:o.guard=none)(ho:o.op=.call {callee:=.builtin .min,args:= #[x,y],argTypes:=at_})(hx:bA l x=some (.v (.int ki a)))(hy:bA l y=some (.v (.int kj c))):QS P n ops H0 o l M (.v (.int ki (if c<a then c else a))):=λ_=>Does.min2 hg ho (aJ hx) (aJ hy) ⟨rfl,rfl⟩
theorem QS.build{parts:Array (Nat×Operand)}{zs:List Value}{places:List (Nat×Nat)}{us KY rs:List AV}{jv:List (List AV)}(gp:List Nat)(hg:o.guard=none)(ho:o.op=.build t parts)(ht:lD P t=some (zs,places))(hz:zs.all (·.oneCell')=true)(hv:vals zs=some KY)
 (ha:gD l (parts.toList.map (·.2))=some us) (hf:kD us=some jv) (hc:(jv.all λcs=>cs.all cK)=true) (hp:jw places (parts.toList.map (·.1)) gp (jv.map (·.length))=true) (hr:yF KY gp jv=some rs):QS P n ops H0 o l M (.agg rs):=by
 intro _
 have e1:=iJ ha
 have e2:=l7 hf
 have e3:=Gi hr
 have e4:(parts.toList.map λp=>ev (gz l) p.2)=us:=by rw[<-e1,List.map_map];rfl
 have Yn:us.length=parts.toList.length:=by rw[<-e4,List.length_map]
 have Yw:jv.length=us.length:=by rw[<-e2,List.length_map]
 refine Does.build gp hg ho ht hz (by rw[e3.2.1,Yw,Yn]) (λj p off h1 h2=>?_) ⟨?_,rfl⟩
 ·have h3:us[j]? =some (ev (gz l) p.2):=by rw[<-e4,List.getElem?_map,h1];rfl
  have h4:jv[j]? =some (flat (ev (gz l) p.2)):=by rw[<-e2,List.getElem?_map,h3];rfl
  refine⟨List.all_eq_true.1 hc _ (List.mem_of_getElem? h4),?_,?_⟩
  ·exact vH hp j p.1 off _ (by rw[List.getElem?_map,h1];rfl) h2 (by rw[List.getElem?_map,h4];rfl)
  ·have h5:=e3.2.2 j off _ h2 h4
   rw[<-rW hv,List.length_map] at h5
   exact h5
 ·rw[e4,e2,rW hv,e3.1]
theorem QS.tX{len:Nat}{parts:Array (Nat×Operand)}{us:List AV}{jv:List (List AV)}(hg:o.guard=none)(ho:o.op=.buildSlice t len parts)(ht:kC P t e sz b)(hl:len*sz<=2^24)
 (hp:parts.toList.map (·.1)=List.range len) (ha:gD l (parts.toList.map (·.2))=some us) (hf:kD us=some jv) (hc:∀cs∈jv,cs.all cK=true/\cs.length=sz):QS P n ops H0 o l M (.sl jv):=by
 intro _
 have e1:=iJ ha
 have e2:=l7 hf
 have e4:(parts.toList.map λp=>flat (ev (gz l) p.2))=jv:=by rw[<-e2,<-e1,List.map_map,List.map_map];rfl
 exact Does.tH hg ho ht hl hp (λp hp'=>hc _ (by rw[<-e4];exact List.mem_map_of_mem (f:=λp=>flat (ev (gz l) p.2)) hp')) ⟨by rw[e4],rfl⟩
def bn(H:Hp)(r:AV)(u:AV)(H':Hp):Prop:=u=r/\H'=H
theorem QS.call{f:Nat}{cc:Operand}{args:Array Operand}{at_:Array TypeId}{dD us:List AV}{r:AV}(hg:o.guard=none)(ho:o.op=.call {callee:=.value cc,args:=args,argTypes:=at_})(hc:bA l cc=some (.lW f dD))(ha:gD l args.toList=some us)
 (h:aK H0 M->F P f (us++dD) (aB H0 M) (bn (aB H0 M) r)):QS P n ops H0 o l M r:=
 λaD=>Does.call hg ho (aJ hc) (by rw[iJ ha];exact h aD)
theorem QS.on{g:Nat×Bool}{dg:Nat}(hg:o.guard=some g)(hdg:(ops[g.1]?).bind (·.dst)=some dg)(hdn:dg<n)(hT:look l dg=some (.v (.bool g.2)))(h:QS P n ops H0 {o with guard:=none} l M u):QS P n ops H0 o l M u:=λaD=>
 Does.KX (h aD) hg hdg hdn (by unfold gz;rw[hT];rfl)
theorem QS.Yx{g:Nat×Bool}{dg:Nat}{bb:Bool}(hg:o.guard=some g)(hdg:(ops[g.1]?).bind (·.dst)=some dg)(hT:look l dg=some (.v (.bool bb)))(hb:bb=!g.2):QS P n ops H0 o l M (.v undef):=by
 intro aD a w ρ h1 h2 h3 h4 N Q hN
 have h5:=h4 dg
 have h6:gz l dg=.v (.bool bb):=by unfold gz;rw[hT];rfl
 rw[h6] at h5
 have h7:=aP h5
 have h8:a.tmps[dg]? =none\/a.tmps[dg]? =some (a.tmps.getD dg undef):=by
  rw[Array.getD_eq_getD_getElem?]
  cases h:a.tmps[dg]? <;>simp
 rw[h7] at h8
 have hw:¬Region.wanted o (yielded ops a.tmps)=true:=by
  rcases h8 with h8|h8<;>cases hgb:g.2<;>simp[Region.wanted,hg,yielded,hdg,h8,hb,hgb]
 rw[if_neg hw]
 exact hN undef w ρ _ _ h3 (Ext.refl _ _ _) (.v undef) ⟨rfl,rfl⟩
theorem QS.WV{g:Nat×Bool}{dg:Nat}(hg:o.guard=some g)(hdg:(ops[g.1]?).bind (·.dst)=some dg)(hT:look l dg=some (.v undef)):QS P n ops H0 o l M (.v undef):=by
 intro aD a w ρ h1 h2 h3 h4 N Q hN
 have h5:=h4 dg
 have h6:gz l dg=.v undef:=by unfold gz;rw[hT];rfl
 rw[h6] at h5
 have h7:=aP h5
 have h8:a.tmps[dg]? =none\/a.tmps[dg]? =some (a.tmps.getD dg undef):=by
  rw[Array.getD_eq_getD_getElem?]
  cases h:a.tmps[dg]? <;>simp
 rw[h7] at h8
 have hw:¬Region.wanted o (yielded ops a.tmps)=true:=by
  rcases h8 with h8|h8<;>simp[Region.wanted,hg,yielded,hdg,h8,undef]
 rw[if_neg hw]
 exact hN undef w ρ _ _ h3 (Ext.refl _ _ _) (.v undef) ⟨rfl,rfl⟩
theorem US.qs{Q:oo->Sl->Hp->Prop}{rest:List Oper}{d:Nat}(hd:o.dst=some d)(hn:d<n)(h:QS P n ops H0 o l M u)(hk:US P n ops Q H0 rest ((d,u)::l) M):US P n ops Q H0 (o::rest) l M:=
 US.step hd hn λaD=>(h aD).mono λu' H' ⟨h1,h2⟩=>⟨M,h2,aD,by rw[h1];exact hk⟩
theorem QS.pick{c:Operand}{bb:Bool}{r:AV}(hg:o.guard=none)(ho:o.op=.pick c x y)(hc:bA l c=some (.v (.bool bb)))(hr:(if bb then bA l x else bA l y)=some r):QS P n ops H0 o l M r:=λ_=>Does.pick hg ho (aJ hc) ⟨by cases bb<;>exact aJ hr,rfl⟩
def QF(P:Program)(n:Nat)(ops:Array Oper)(H0:Hp)(o:Oper)(l:List (Nat×AV))(u:AV):Prop:=∀M,QS P n ops H0 o l M u
theorem QF.move(hg:o.guard=none)(ho:o.op=.move x)(hx:bA l x=some u):QF P n ops H0 o l u:=λM=>QS.move hg ho hx
theorem QF.fieldAddr{f off off':Nat}(hg:o.guard=none)(ho:o.op=.fieldAddr t x f)(hx:bA l x=some (.ptr id off))(h:dM P t f=some off'):QF P n ops H0 o l (.ptr id (off+off')):=λM=>QS.fieldAddr hg ho hx h
theorem QF.mo{lo hi:Option Operand}{a a':Nat}{rs:List (List AV)}(hg:o.guard=none)(ho:o.op=.slice t x lo hi none)(ht:lY P t=some (e,sz,b))(hx:bA l x=some (.sl rows))(hs:∀cs∈rows,cs.length=sz)(hb:kV l rows.length lo hi a a')(h1:a<=a')(h2:a'<=rows.length)(hr:(rows.take a').drop a=rs):QF P n ops H0 o l (.sl rs):=λM=>QS.mo hg ho ht hx hs hb h1 h2 hr
def app:List (Nat×AV)->List (Nat×AV)->List (Nat×AV)
 |[],l=>l
 |p::r,l=>p::app r l
def bV:List (Option (Nat×AV))->List (Nat×AV)->List (Nat×AV)
 |[],l=>l
 |none::r,l=>bV r l
 |some p::r,l=>bV r (p::l)
theorem I5:∀(a b:List (Nat×AV)),app a b=a++b
 |[],_=>rfl
 |p::r,b=>by rw[app,I5 r b];rfl
theorem zn:∀(a:List (Option (Nat×AV))) (b:List (Nat×AV)),bV a b=(a.filterMap λq=>q).reverse++b
 |[],_=>rfl
 |none::r,b=>by rw[bV,zn r b];rfl
 |some p::r,b=>by rw[bV,zn r (p::b)];simp
section
variable {ol:List Oper} {Q:oo->Sl->Hp->Prop} {B cs k1:List Nat} {pre r:List (Option (Nat×AV))} {cr:List (Nat×AV)} {i c d:Nat} {u':AV} {keep:List (Nat×Ob)}
theorem UW.dC{ND:Nat}(hm:P.follows .mixedOrders=true)(B:List Nat)(ds:List (Option Nat))(pre:List (Option (Nat×AV)))(cs k1:List Nat)(hpre:(pre.map λo=>o.map (·.1))=ds)(he:kR B ol 0=true)(hch:pJ B ds cs k1 (dstsOf ol)=true)
 (hq:I P n ol H0 M B k1 pre l [] pre 0) (hk:CH P n ol Q H0 B pre l [] cs [] M):UW P n Q H0 (.region ND ol.toArray true) l M:=UW.draw hm B pre cs k1 he (by rw[hpre];exact hch) hq hk
def pick{α:Type}(r:List α):List Nat->List α
 |[]=>[]
 |k::ks=>match r[k]? with
  |some p=>p::pick r ks
  |none=>pick r ks
theorem UW.gF{ND:Nat}(hm:P.follows .mixedOrders=true)(kp:List Nat)(B:List Nat)(ds:List (Option Nat))(pre:List (Option (Nat×AV)))(cs k1:List Nat)(hpre:(pre.map λo=>o.map (·.1))=ds)(he:kR B ol 0=true)(hch:pJ B ds cs k1 (dstsOf ol)=true)
 (hq:I P n ol H0 M B k1 pre l (pick M kp) pre 0) (hk:CH P n ol Q H0 B pre l (pick M kp) cs [] M):UW P n Q H0 (.region ND ol.toArray true) l M:=UW.draw hm B pre cs k1 he (by rw[hpre];exact hch) hq hk
theorem LV{i j:Nat}{a b:Ob}{r:List (Nat×Ob)}(h:i≠j):aB H0 ((i,a)::(j,b)::r)=aB H0 ((j,b)::(i,a)::r):=by
 funext k
 simp only[aB,set]
 by_cases hi:k=i
 ·by_cases hj:k=j
  ·omega
  ·simp[hi,h]
 ·simp[hi]
theorem LW{i j:Nat}{a b:Ob}{r:List (Nat×Ob)}(h:aK H0 ((i,a)::(j,b)::r)):i≠j/\aK H0 ((j,b)::(i,a)::r):=by
 cases h with
 |cons h1 h2=>
  cases h2 with
  |cons h3 h4=>
   have hij:i≠j:=λe=>by subst e;simp[aB] at h1
   have h5:aB H0 r i=none:=by
    have h1':=h1
    simp only[aB] at h1'
    rw[dV _ _ hij] at h1'
    exact h1'
   refine⟨hij,.cons ?_ (.cons h5 h4)⟩
   simp only[aB]
   rw[dV _ _ (Ne.symm hij)]
   exact h3
theorem I.nil:I P n ol H0 M B k1 pre l keep [] i:=trivial
theorem I.skip(h:I P n ol H0 M B k1 pre l keep r (i+1)):I P n ol H0 M B k1 pre l keep (none::r) i:=h
theorem I.free(hn:d<n)(ho:ol[i]? =some o)(hk:k1.contains i=false)(hq:QF P n ol.toArray H0 o (ow B (dstsOf ol) pre [] l i) u)(h:I P n ol H0 M B k1 pre l keep r (i+1)):I P n ol H0 M B k1 pre l keep (some (d,u)::r) i:=
 ⟨⟨hn,o,ho,by rw[if_neg (by simpa using hk)];exactλM _=>hq M⟩,h⟩
def QK(P:Program)(n:Nat)(ops:Array Oper)(H0:Hp)(o:Oper)(l:List (Nat×AV))(keep:List (Nat×Ob))(u:AV):Prop:=∀M,Has keep M->QS P n ops H0 o l M u
theorem I.kept(hn:d<n)(ho:ol[i]? =some o)(hk:k1.contains i=false)(hq:QK P n ol.toArray H0 o (ow B (dstsOf ol) pre [] l i) keep u)(h:I P n ol H0 M B k1 pre l keep r (i+1)):I P n ol H0 M B k1 pre l keep (some (d,u)::r) i:=
 ⟨⟨hn,o,ho,by rw[if_neg (by simpa using hk)];exact hq⟩,h⟩
theorem I.held(hn:d<n)(ho:ol[i]? =some o)(hk:k1.contains i=true)(hq:QS P n ol.toArray H0 o (ow B (dstsOf ol) pre [] l i) M u)(h:I P n ol H0 M B k1 pre l keep r (i+1)):I P n ol H0 M B k1 pre l keep (some (d,u)::r) i:=
 ⟨⟨hn,o,ho,by rw[if_pos (by simpa using hk)];exact hq⟩,h⟩
def DS(P:Program)(n:Nat)(ops:Array Oper)(H0:Hp)(o:Oper)(l:List (Nat×AV))(M:List (Nat×Ob))(K:AV->List (Nat×Ob)->Prop):Prop:=
 aK H0 M->Does P n ops o (gz l) (aB H0 M) (λu H'=>∃aL,H'=aB H0 aL/\aK H0 aL/\K u aL)
theorem CH.nil(h:UQ Q H0 .normal (app cr (bV pre l)) M)(hs:Has keep M:=by exact .n):CH P n ol Q H0 B pre l keep [] cr M:=by
 rw[I5,zn] at h;exact⟨hs,h⟩
theorem CH.cons(ho:ol[c]? =some o)(hd:o.dst=some d)(hn:d<n)(h:DS P n ol.toArray H0 o (ow B (dstsOf ol) pre cr l c) M (λu aL=>CH P n ol Q H0 B pre l keep cs ((d,u)::cr) aL))(hs:Has keep M:=by exact .n):CH P n ol Q H0 B pre l keep (c::cs) cr M:=
 ⟨hs,o,ho,λd' hd'=>(by rw[hd] at hd';cases hd';exact hn),by rw[hd];exact h⟩
theorem CH.aV(ho:ol[c]? =some o)(hd:o.dst=none)(h:DS P n ol.toArray H0 o (ow B (dstsOf ol) pre cr l c) M (λ_ aL=>CH P n ol Q H0 B pre l keep cs cr aL))(hs:Has keep M:=by exact .n):CH P n ol Q H0 B pre l keep (c::cs) cr M:=
 ⟨hs,o,ho,λd' hd'=>(by rw[hd] at hd';cases hd'),by rw[hd];exact h⟩
end
section
variable {K:AV->List (Nat×Ob)->Prop} {off:Nat}
theorem DS.qs(h:QS P n ops H0 o l M u)(hk:K u M):DS P n ops H0 o l M K:=λaD=>(h aD).mono λ_ _ ⟨h1,h2⟩=>⟨M,h2,aD,by rw[h1];exact hk⟩
theorem DS.xS{ls ls':List AV}{aL:List (Nat×Ob)}{bb:Bool}(hg:o.guard=none)(ho:o.op=.store t x y)(ht:eQ P t=some (bb,sz))(hx:bA l x=some (.ptr id off))(h2:M[k]? =some (id,.box e ls))(hy:bA l y=some u)(hf:mr u=some cells)(hc:cells.all cK=true)
 (hl:cells.length=sz) (hr:y8 ls off cells=some ls') (jd:M.set k (id,.box e ls')=aL) (hk:∀u,K u aL):DS P n ops H0 o l M K:=by
 subst jd
 exactλaD=>Does.lX hg ho (aJ hx) (aD.at_ h2) (by rw[aJ hy,fe hf];exact hc) (by rw[aJ hy,fe hf,hl];exact ht) (by rw[aJ hy,fe hf];exact(pI hr).2)
  ⟨_,by rw[aJ hy,fe hf,(pI hr).1];exact(aD.kg _ h2).1,(aD.kg _ h2).2,hk _⟩
theorem DS.kW{ls:List AV}{aL:List (Nat×Ob)}{bb:Bool}(hg:o.guard=none)(ho:o.op=.store t x y)(ht:eQ P t=some (bb,sz))(hx:bA l x=some (.ptr id 0))(h2:M[k]? =some (id,.box e ls))(hls:ls.length=sz)(hy:bA l y=some u)(hf:mr u=some cells)(hc:cells.all cK=true)
 (hl:cells.length=sz) (jd:M.set k (id,.box e cells)=aL) (hk:∀u,K u aL):DS P n ops H0 o l M K:=by
 subst jd
 exactλaD=>Does.lX hg ho (aJ hx) (aD.at_ h2) (by rw[aJ hy,fe hf];exact hc) (by rw[aJ hy,fe hf,hl];exact ht) (by rw[aJ hy,fe hf,hls];omega)
  ⟨_,by rw[aJ hy,fe hf,tY cells ls (by rw[hl,hls])];exact(aD.kg _ h2).1,(aD.kg _ h2).2,hk _⟩
theorem DS.xN{i:Nat}{bb:Bool}(hg:o.guard=none)(ho:o.op=.store t x y)(hx:bA l x=some (.ptr id off))(h2:M[k]? =some (id,.row e sz rows))(hoff:off=i*sz)(hi:i<rows.length)(hy:bA l y=some u)(hf:mr u=some cells)(hc:cells.all cK=true)
 (ht:eQ P t=some (bb,sz)) (hl:cells.length=sz) (hz:0<sz) (hrows:∀cs∈rows,cs.length=sz)
 (hk:∀u,K u (M.set k (id,.row e sz (rows.set i cells)))):DS P n ops H0 o l M K:=
 λaD=>Does.xN (rows.set i cells) hg ho (aJ hx) (aD.at_ h2) (by rw[aJ hy,fe hf];exact hc) (by rw[aJ hy,fe hf,hl];exact ht)
  (by rw[aJ hy,fe hf,hl,hoff,dB sz _ hrows,<-Nat.succ_mul];exact Nat.mul_le_mul_right _ hi)
  (by rw[aJ hy,fe hf,hoff];exact Gb sz hz rows hrows i cells hi hl) (by simp) (λcs hcs=>by
    rcases List.mem_or_eq_of_mem_set hcs with h1|h1
    ·exact hrows cs h1
    ·rw[h1,hl])
  ⟨_,(aD.kg _ h2).1,(aD.kg _ h2).2,hk _⟩
theorem DS.jD{s:Operand}{len:Nat}{news rs:List (List AV)}(hg:o.guard=none)(ho:o.op=.call {callee:=.builtin .append,args:= #[s,x],argTypes:= #[t,t]})(ht:kC P t e sz b)
 (hs:bA l s=some (.own id 0 len sz)) (h2:M[k]? =some (id,.row e sz rows)) (hle:len<=rows.length) (hx:bA l x=some u) (hsrc:xR M sz u news) (hb:(len+news.length)*b<=140737488355328) (hr:rows.take len++news=rs)
 (hk:∀id',K (.own id' 0 (len+news.length) sz) ((id',.row e sz rs)::M.eraseIdx k)):DS P n ops H0 o l M K:=
 λaD=>by
  have mD:=aD.kill h2
  refine Does.jD hg ho ht (aJ hs) (aD.at_ h2) hle (by rw[aJ hx];exact hsrc.to aD) hb λid' hid=>⟨(id',.row e sz rs)::M.eraseIdx k,?_,?_,hk id'⟩
  ·rw[mD.1,hr];rfl
  ·refine .cons ?_ mD.2
   rw[<-mD.1]
   by_cases h:id'=id
   ·subst h;simp
   ·rw[dV _ _ h];exact hid
theorem DS.append_nil{s:Operand}{news:List (List AV)}(hg:o.guard=none)(ho:o.op=.call {callee:=.builtin .append,args:= #[s,x],argTypes:= #[t,t]})(ht:kC P t e sz b)
 (hs:bA l s=some (.v (.slice none 0 0))) (hx:bA l x=some u) (hsrc:xR M sz u news) (hb:news.length*b<=140737488355328)
 (hk:∀id',K (.own id' 0 news.length sz) ((id',.row e sz news)::M)):DS P n ops H0 o l M K:=
 λaD=>Does.append_nil hg ho ht (aJ hs) (by rw[aJ hx];exact hsrc.to aD) hb λid' hid=>⟨_,rfl,.cons hid aD,hk id'⟩
theorem DS.call{f:Nat}{cc:Operand}{args:Array Operand}{at_:Array TypeId}{dD us:List AV}{J:AV->Hp->Prop}(hg:o.guard=none)(ho:o.op=.call {callee:=.value cc,args:=args,argTypes:=at_})(hc:bA l cc=some (.lW f dD))(ha:gD l args.toList=some us)
 (h:aK H0 M->F P f (us++dD) (aB H0 M) J) (hk:∀u H',J u H'->∃aL,H'=aB H0 aL/\(aK H0 M->aK H0 aL)/\K u aL):DS P n ops H0 o l M K:=
 λaD=>Does.call hg ho (aJ hc) (by
  rw[iJ ha]
  exact(h aD).mono λu H' hK=>by
   obtain⟨aL,e1,e2,e3⟩:=hk u H' hK
   exact⟨aL,e1,e2 aD,e3⟩)
theorem jR:∀(news M:List (Nat×Ob)),aB (aB H0 M) news=aB H0 (news++M)
 |[],_=>rfl
 |(i,ob)::r,M=>by show set _ _ _=set _ _ _;rw[jR r M];rfl
theorem aK.app{M:List (Nat×Ob)}(aD:aK H0 M):∀{news:List (Nat×Ob)},aK (aB H0 M) news->aK H0 (news++M)
 |_,.nil=>aD
 |_,.cons h1 h2=> .cons ((congrFun (jR (H0:=H0) _ M) _).symm.trans h1) (aK.app aD h2)
theorem DS.qW{f:Nat}{cc:Operand}{args:Array Operand}{at_:Array TypeId}{dD us:List AV}{R:AV->List (Nat×Ob)->Prop}(hg:o.guard=none)(ho:o.op=.call {callee:=.value cc,args:=args,argTypes:=at_})(hc:bA l cc=some (.lW f dD))(ha:gD l args.toList=some us)
 (h:aK H0 M->F P f (us++dD) (aB H0 M) (λu H'=>∃news,aK (aB H0 M) news/\H'=aB (aB H0 M) news/\R u news)) (hk:∀u news,R u news->K u (news++M)):DS P n ops H0 o l M K:=
 DS.call hg ho hc ha h (λu H' ⟨news,h1,h2,h3⟩=>⟨news++M,by rw[h2,jR],λaD=>aD.app h1,hk u news h3⟩)
theorem DS.on{g:Nat×Bool}{dg:Nat}(hg:o.guard=some g)(hdg:(ops[g.1]?).bind (·.dst)=some dg)(hdn:dg<n)(hT:look l dg=some (.v (.bool g.2)))(h:DS P n ops H0 {o with guard:=none} l M K):DS P n ops H0 o l M K:=λaD=>
 Does.KX (h aD) hg hdg hdn (by unfold gz;rw[hT];rfl)
end
theorem US.pick{Q:oo->Sl->Hp->Prop}{rest:List Oper}{d:Nat}{c:Operand}{bb:Bool}{r:AV}(hd:o.dst=some d)(hn:d<n)(hg:o.guard=none)(ho:o.op=.pick c x y)(hc:bA l c=some (.v (.bool bb)))(hr:(if bb then bA l x else bA l y)=some r)(hk:US P n ops Q H0 rest ((d,r)::l) M):US P n ops Q H0 (o::rest) l M:=
 US.qs hd hn (QS.pick hg ho hc hr) hk
theorem US.WW{Q:oo->Sl->Hp->Prop}{rest:List Oper}{d:Nat}{at_:Array TypeId}{ki kj:IntKind}{a c r:Int}(hd:o.dst=some d)(hn:d<n)(hg:o.guard=none)(ho:o.op=.call {callee:=.builtin .min,args:= #[x,y],argTypes:=at_})(hx:bA l x=some (.v (.int ki a)))(hy:bA l y=some (.v (.int kj c)))(hr:(if c<a then c else a)=r)
 (hk:US P n ops Q H0 rest ((d,.v (.int ki r))::l) M):US P n ops Q H0 (o::rest) l M:=US.min2 hd hn hg ho hx hy (by rw[hr];exact hk)
end
end
section
variable [Rd]
theorem yG{α:Type}(l us:List α)(off:Nat)(h:off+us.length<=l.length):gQ l off us=l.take off++us++l.drop (off+us.length):=by
 apply List.ext_getElem?
 intro j
 rw[mi,List.append_assoc]
 by_cases h1:j<off
 ·rw[if_neg (by omega),List.getElem?_append_left (by rw[List.length_take];omega),List.getElem?_take,if_pos h1]
 ·rw[List.getElem?_append_right (by rw[List.length_take];omega),List.length_take,Nat.min_eq_left (by omega)]
  by_cases h2:j<off+us.length
  ·rw[if_pos (by omega),List.getElem?_append_left (by omega)]
  ·rw[if_neg (by omega),List.getElem?_append_right (by omega),List.getElem?_drop]
   congr 1;omega
theorem zV{α:Type}(sz:Nat)(rows news:List (List α))(p:Nat)(h:∀cs∈rows,cs.length=sz)(hn:∀cs∈news,cs.length=sz)(hle:p+news.length<=rows.length):
 (rows.take p++news++rows.drop (p+news.length)).flatten=gQ rows.flatten (p*sz) news.flatten:=by
 have e1:=dB sz rows h
 have e2:=dB sz news hn
 rw[yG _ _ _ (by rw[e1,e2,<-Nat.add_mul];exact Nat.mul_le_mul_right _ hle),List.flatten_append,List.flatten_append,fU sz _ _ h,jP sz _ _ h,e2,Nat.add_mul]
section
variable {P:Program} {n:Nat} {T:Sl} {H:Hp} {ops:Array Oper} {o:Oper} {K:AV->Hp->Prop}
theorem D7{ρ ρ':fK}{H':Hp}{w w':World}{v:Value}{e sz p:Nat}{rows news:List (List AV)}{nv:List Value}{g cap:Nat}{cur:Array Value}{inner:List Value}
 (hz:0<sz) (hl:∀cs∈rows,cs.length=sz) (hn:∀cs∈news,cs.length=sz) (hle:p+news.length<=rows.length) (hv:v=.slice (some ⟨g,0,none⟩) rows.length cap)
 (h5:rows.length<=cap) (h6:cap<=maxLen) (h7:cur.size=cap*sz) (h8:cur.toList.take (rows.length*sz)=inner) (hil:inner.length=rows.length*sz) (hc:aZ (bK ρ H) ρ w rows.flatten inner) (Cj:aZ (bK ρ H) ρ w news.flatten nv)
 (hw:w'.heap[g]? =some (.cells (gQ cur.toList (p*sz) nv).toArray e (0,0))) (e':Ext ρ H w ρ' H' w'):lM (bK ρ' H') ρ' w' v (.row e sz (rows.take p++news++rows.drop (p+news.length))):=by
 have hlen:(rows.take p++news++rows.drop (p+news.length)).length=rows.length:=by simp;omega
 have hnl:nv.length=news.length*sz:=by rw[<-Cj.1,dB sz _ hn]
 refine⟨hz,gQ inner (p*sz) nv,⟨by rw[fZ,hlen];exact hil,.inr ⟨g,cap,_,by rw[hlen];exact hv,Nat.zero_le _,hw,by rw[hlen];exact h5,h6,by simp[fZ,h7],?_⟩⟩,λcs hcs=>?_,?_⟩
 ·rw[hlen]
  show(gQ cur.toList _ nv).take _=_
  rw[Ci _ _ _ _ (by rw[hnl,<-Nat.add_mul];exact Nat.mul_le_mul_right _ hle),h8]
 ·rcases List.mem_append.1 hcs with hcs|hcs
  ·rcases List.mem_append.1 hcs with hcs|hcs
   ·exact hl cs (List.mem_of_mem_take hcs)
   ·exact hn cs hcs
  ·exact hl cs (List.mem_of_mem_drop hcs)
 ·rw[zV sz rows news p hl hn hle]
  exact e'.cells (kP hc Cj _)
theorem zW(z:Array Value)(m:Nat)(hz:0<z.size):(Builtin.zeroCells z m).toList=(List.replicate m z.toList).flatten:=by
 apply List.ext_getElem?
 intro j
 have hfl:(List.replicate m z.toList).flatten.length=m*z.size:=by simp
 by_cases hj:j<m*z.size
 ·have hq:j/z.size<m:=(Nat.div_lt_iff_lt_mul hz).2 hj
  have hr:j % z.size<z.size:=Nat.mod_lt _ hz
  have hjj:j=j/z.size*z.size+j % z.size:=by rw[Nat.mul_comm];exact(Nat.div_add_mod j z.size).symm
  have h1:=fw z.size hz (List.replicate m z.toList) (by intro cs hcs;rw[List.eq_of_mem_replicate hcs];simp) (j/z.size) z.toList (j % z.size) (by rw[List.getElem?_replicate,if_pos hq]) hr
  rw[<-hjj] at h1
  rw[h1]
  simp[Builtin.zeroCells,hj,hr]
 ·rw[List.getElem?_eq_none (by rw[Array.length_toList,size_zeroCells];omega),List.getElem?_eq_none (by rw[hfl];omega)]
end
section
variable {P:Program} {n:Nat} {Q:oo->Sl->Hp->Prop} {H0:Hp} {c:Code} {l:List (Nat×AV)} {M:List (Nat×Ob)} {ops:Array Oper} {rest:List Oper} {o:Oper}
variable {d:Nat} {x y z:Operand} {u:AV} {t e sz b:Nat} {id k:Nat} {ob:Ob} {cells:List AV} {rows:List (List AV)} {K:AV->List (Nat×Ob)->Prop}
theorem aK.old{H0:Hp}{ob:Ob}(h0:H0 id=some ob):∀{M:List (Nat×Ob)},aK H0 M->aB H0 M id=some ob
 |_,.nil=>h0
 |_,.cons (i:=i) h1 h2=>by
  have h3:=aK.old h0 h2
  have hne:id≠i:=by rintro rfl;rw[h3] at h1;cases h1
  unfold aB
  rw[dV _ _ hne];exact h3
theorem QS.T9{off:Nat}{ls:List AV}(hg:o.guard=none)(ho:o.op=.load t x)(ht:eQ P t=some (false,sz))(hx:bA l x=some (.ptr id off))(h2:H0 id=some (.box e ls))(hr:ls[off]? =some u):QS P n ops H0 o l M u:=
 λaD=>Does.Ch hg ho (aJ hx) (aD.old h2) ht hr ⟨rfl,rfl⟩
def KZ:AV->AV
 | .v (.slice none 0 0)=> .sl []
 |u=>u
def jl:List AV->List AV
 |[]=>[]
 |u::r=>KZ u::jl r
theorem oV:∀r:List AV,jl r=r.map KZ
 |[]=>rfl
 |u::r=>by rw[jl,oV r];rfl
theorem xV{ok:Nat->Prop}{ρ:fK}{w:World}{u:AV}{x:Value}(h:dL ok ρ w u x):dL ok ρ w (KZ u) x:=by
 unfold KZ
 split
 ·rw[aP h];exact .nil
 ·exact h
theorem Gn{ρ:fK}{H H':Hp}(h:∀i,(H i).isSome=(H' i).isSome):bK ρ H=bK ρ H':=by
 funext k
 have hx:∀{H H':Hp},(∀i,(H i).isSome=(H' i).isSome)->Own ρ H k->Own ρ H' k:=by
  rintro H H' h ⟨id,ob,v,h1,h2,h3⟩
  have h4:=h id
  rw[h1] at h4
  cases h5:H' id with
  |none=>rw[h5] at h4;cases h4
  |some zF=>exact⟨id,zF,v,h5,h2,h3⟩
 exact propext ⟨λhn ho=>hn (hx (λi=>(h i).symm) ho),λhn ho=>hn (hx h ho)⟩
theorem Gp{E:Nu}{a:Act}{w:World}{T:Sl}(aD:aK H0 M)(h2:M[k]? =some (id,.box e cells))(hi:Inv E n T (aB H0 M) a w):Inv E n T (aB H0 (M.set k (id,.box e (jl cells)))) a w:=by
 obtain⟨ρ,h1,h2',h3⟩:=hi.rel
 have hs:=(aD.kg (.box e (jl cells)) h2).1
 have hat:=aD.at_ h2
 have hdom:∀i,(aB H0 M i).isSome=(aB H0 (M.set k (id,.box e (jl cells))) i).isSome:=by
  intro i
  rw[<-hs]
  by_cases hj:i=id
  ·subst hj;rw[set_self,hat];rfl
  ·rw[dV _ _ hj]
 have hok:=Gn (ρ:=ρ) hdom
 refine⟨hi.size,hi.defers,ρ,⟨λid' ob jd=>?_,λi i' o o' v v' k' q1 q2 q3 q4 q5 q6=>?_,h1.room,h1.lt⟩,⟨h2'.os,h2'.tape,h2'.output,h2'.size,h2'.block,λk' ho=>h2'.own k' ?_,h2'.F4⟩,λt=>by rw[<-hok];exact h3 t⟩
 ·rw[<-hok]
  rw[<-hs] at jd
  by_cases hj:id'=id
  ·subst hj
   rw[set_self] at jd
   cases jd
   obtain⟨v,q1,g,vals,q2,q3,q4⟩:=h1.ob _ _ hat
   refine⟨v,q1,g,vals,q2,q3,by rw[oV,List.length_map];exact q4.1,λj u x hu hx=>?_⟩
   rw[oV,List.getElem?_map] at hu
   cases hc:cells[j]? with
   |none=>rw[hc] at hu;cases hu
   |some u0=>
    rw[hc] at hu
    cases hu
    have:=q4.2 j u0 x hc hx
    exact⟨xV this.1,this.2⟩
  ·rw[dV _ _ hj] at jd
   exact h1.ob _ _ jd
 ·have hx:∀{i:Nat} {o:Ob},aB H0 (M.set k (id,.box e (jl cells))) i=some o->∃o',aB H0 M i=some o':=by
   intro i o h
   have h4:=hdom i
   rw[h] at h4
   cases h5:aB H0 M i with
   |none=>rw[h5] at h4;cases h4
   |some o'=>exact⟨o',rfl⟩
  obtain⟨p1,p2⟩:=hx q1
  obtain⟨p3,p4⟩:=hx q2
  exact h1.apart i i' _ _ v v' k' p2 p4 q3 q4 q5 q6
 ·have:¬bK ρ (aB H0 (M.set k (id,.box e (jl cells)))) k':=λh=>h ho
  rw[<-hok] at this
  exact Classical.not_not.1 this
theorem US.LX{aL:List (Nat×Ob)}(k:Nat)(h2:M[k]? =some (id,.box e cells))(jd:M.set k (id,.box e (jl cells))=aL)(hk:US P n ops Q H0 rest l aL):US P n ops Q H0 rest l M:=by
 subst jd
 exactλhd E a w hi=>hk (hd.kg _ h2).2 E a w (Gp hd h2 hi)
theorem US.zX{zs:List Value}{us lu:List AV}{z:Value}(hd:o.dst=some d)(hn:d<n)(hg:o.guard=none)(ho:o.op=.alloc e)(hz:(P.info? e).map (·.zero)=some (some z))(hzs:z.cells.toList=zs)(hc:zs.all (·.oneCell')=true)(hv:vals zs=some us)(hu:jl us=lu)
 (hk:∀id,US P n ops Q H0 rest ((d,.ptr id 0)::l) ((id,.box e lu)::M)):US P n ops Q H0 (o::rest) l M:=
 US.alloc' hd hn hg ho hz hzs hc hv λid=>US.LX 0 U U (by rw[List.set_cons_zero,hu];exact hk id)
theorem US.slot(d:Nat){u':AV}(hl:look l d=some u)(ht:dw (aB H0 M) u (aB H0 M) u')(hk:US P n ops Q H0 rest ((d,u')::l) M):US P n ops Q H0 rest l M:=by
 intro hd
 refine qR.turn (λ_ _ h=>h) (λt=>?_) (hk hd)
 unfold gz
 simp only[look]
 by_cases ht':t=d
 ·subst ht'
  rw[hl,if_pos U];exact ht
 ·rw[if_neg ht'];exact dw.drop (λ_ _ h=>h) _
theorem dw.LX{H H':Hp}(hs:Sub H' H)(r:List AV):dw H (.agg r) H' (.agg (jl r)):=by
 rw[oV]
 refine dw.agg (List.length_map ..) λj u u' h1 h2=>?_
 rw[List.getElem?_map,h1] at h2
 cases h2
 intro ρ w x hh hr
 exact xV (dw.drop hs u ρ w x hh hr)
theorem QS.LX{us lu:List AV}(hu:jl us=lu)(h:QS P n ops H0 o l M (.agg us)):QS P n ops H0 o l M (.agg lu):=by
 subst hu
 intro aD a w ρ h1 h2 h3 h4 N Q hN
 refine h aD a w ρ h1 h2 h3 h4 N Q λx w' ρ' u H' q1 q2 q3 q4=>?_
 obtain⟨rfl,rfl⟩:=q4
 exact hN x w' ρ' _ _ q1 q2 (dw.LX (λ_ _ h=>h) us ρ' w' x q1 q3) ⟨rfl,rfl⟩
theorem US.D8{parts:Array (Nat×Operand)}{zs:List Value}{places:List (Nat×Nat)}{us KY rs rs':List AV}{jv:List (List AV)}(gp:List Nat)(hd:o.dst=some d)(hn:d<n)(hg:o.guard=none)(ho:o.op=.build t parts)(ht:lD P t=some (zs,places))(hz:zs.all (·.oneCell')=true)(hv:vals zs=some KY)
 (ha:gD l (parts.toList.map (·.2))=some us) (hf:kD us=some jv) (hc:(jv.all λcs=>cs.all cK)=true) (hp:jw places (parts.toList.map (·.1)) gp (jv.map (·.length))=true) (hr:yF KY gp jv=some rs) (hu:jl rs=rs') (hk:US P n ops Q H0 rest ((d,.agg rs')::l) M):US P n ops Q H0 (o::rest) l M:=
 US.qs hd hn (QS.LX hu (QS.build gp hg ho ht hz hv ha hf hc hp hr)) hk
theorem QS.D8{parts:Array (Nat×Operand)}{zs:List Value}{places:List (Nat×Nat)}{us KY rs rs':List AV}{jv:List (List AV)}(gp:List Nat)(hg:o.guard=none)(ho:o.op=.build t parts)(ht:lD P t=some (zs,places))(hz:zs.all (·.oneCell')=true)(hv:vals zs=some KY)
 (ha:gD l (parts.toList.map (·.2))=some us) (hf:kD us=some jv) (hc:(jv.all λcs=>cs.all cK)=true) (hp:jw places (parts.toList.map (·.1)) gp (jv.map (·.length))=true) (hr:yF KY gp jv=some rs) (hu:jl rs=rs'):QS P n ops H0 o l M (.agg rs'):=QS.LX hu (QS.build gp hg ho ht hz hv ha hf hc hp hr)
end
end
section
variable [Rd]
section
variable {P:Program} {n:Nat} {T:Sl} {H:Hp} {ops:Array Oper} {o:Oper} {K:AV->Hp->Prop}
theorem Does.LY{t:Nat}{x:Operand}{s:ByteArray}(hg:o.guard=none)(ho:o.op=.range t x)(ht:P.underlying t=some .string)(hx:ev T x=.v (.string s))
 (hk:∀id,H id=none->K (.ptr id 0) (set H id (some (.iter s 0)))):Does P n ops o T H K:=by
 refine Does.zJ hg λa w ρ h hr=>?_
 have h3:=hr x
 rw[hx] at h3
 have h4:=aP h3
 refine⟨.pointer (some ⟨w.heap.size,0,none⟩),.pointer (some ⟨w.heap.size,0,none⟩),w.iter s 0,.iter s 0,?_,iF _ _,?_,λρ' H' e=>⟨_,rfl,World.iter_heap w s 0⟩,?_⟩
 ·unfold execOp
  rw[ho]
  simp only[h4,Sem.run_bind,run_range_string (P:=P) w t s ht,Result.andThen_ok,Sem.run_pure]
 ·intro k hk;cases hk;rw[World.iter,size_alloc];simp
 ·intro id hid
  exact⟨.ptr id 0,λok' ρ' h=> .ptr id 0 _ _ h (.inl U),hk id hid⟩
theorem run_next_at(w:World)(g:Nat)(s:ByteArray)(pos:Nat)(ty:TypeId)(hg:w.heap[g]? =some (.stringIter s pos))(h:pos<s.size):
 (Instr.next (.pointer (some ⟨g,0,none⟩)) true ty).run P w=.ok (.tuple #[.bool true,.int .i64 pos,.int .i32 (Utf8.decode s pos).1]) {w with heap:=w.heap.setIfInBounds g (.stringIter s (pos+(Utf8.decode s pos).2))}:=by
 simp only[Instr.next,getObj,setObj,Sem.run_bind,Sem.run,hg,Result.andThen,h,if_true]
 simp[goInt]
theorem BN(w:World)(g:Nat)(s:ByteArray)(pos:Nat)(ty:TypeId)(hg:w.heap[g]? =some (.stringIter s pos))(h:¬pos<s.size):
 (Instr.next (.pointer (some ⟨g,0,none⟩)) true ty).run P w=.ok (.tuple #[.bool false]) w:=by
 simp[Instr.next,getObj,Sem.run,hg,h]
theorem K3{ρ:fK}{w:World}{id pos:Nat}{s:ByteArray}{x:Value}(h:dG ρ H w)(h2:H id=some (.iter s pos))(hr:dL (bK ρ H) ρ w (.ptr id 0) x):
 ∃g,x=.pointer (some ⟨g,0,none⟩)/\ρ id=some x/\w.heap[g]? =some (.stringIter s pos):=by
 obtain⟨v,hv,g,rfl,hg⟩:=h.ob id _ h2
 cases hr with
 |ptr _ _ g' x' hx hx'=>
  rw[hv] at hx
  cases hx
  rcases hx' with h3|⟨_,_,h3⟩
  ·cases h3;exact⟨g,rfl,hv,hg⟩
  ·cases h3
theorem Does.NH{x:Operand}{id pos:Nat}{s:ByteArray}(hg:o.guard=none)(ho:o.op=.next x true)(hx:ev T x=.ptr id 0)(h2:H id=some (.iter s pos))(hlt:pos<s.size)
 (hk:K (.dH [.v (.bool true),.v (.int .i64 pos),.v (.int .i32 (Utf8.decode s pos).1)]) (set H id (some (.iter s (pos+(Utf8.decode s pos).2))))):Does P n ops o T H K:=by
 intro a w ρ h1 hd h3 h4 N Q hN
 rw[if_pos (by simp[Region.wanted,hg])]
 have hr:=iA h4
 have h5:=hr x
 rw[hx] at h5
 obtain⟨g,nD,hρ,hgg⟩:=K3 h3 h2 h5
 have hrun:(execOp a.eval o).run P w=.ok (.value (.tuple #[.bool true,.int .i64 pos,.int .i32 (Utf8.decode s pos).1])) {w with heap:=w.heap.setIfInBounds g (.stringIter s (pos+(Utf8.decode s pos).2))}:=by
  unfold execOp
  rw[ho]
  simp only[nD,Sem.run_bind,run_next_at (P:=P) w g s pos o.type hgg hlt,Result.andThen_ok,Sem.run_pure]
 unfold Oper.wp
 rw[hrun]
 have hlt':g<w.heap.size:=(Array.getElem?_eq_some_iff.1 hgg).1
 rw[nD] at hρ
 have:=h3.write (w':={w with heap:=w.heap.setIfInBounds g (.stringIter s (pos+(Utf8.decode s pos).2))}) (.iter s (pos+(Utf8.decode s pos).2)) h2 hρ U U U (by simp) (λk _ hk=>by
  have:g≠k:=λe=>hk (by rw[e];rfl)
  simp[Array.getElem?_setIfInBounds,this]) (λρ' H' e' _=>⟨g,rfl,by simp[Array.getElem?_setIfInBounds,hlt']⟩)
 refine hN _ _ ρ _ _ this.1 this.2 ?_ hk
 exact .dH _ [.bool true,.int .i64 pos,.int .i32 (Utf8.decode s pos).1] U (λj u y h6 h7=>by
  match j with
  |0=>simp at h6 h7;subst h6 h7;exact .v _
  |1=>simp at h6 h7;subst h6 h7;exact .v _
  |2=>simp at h6 h7;subst h6 h7;exact .v _
  |j+3=>simp at h6)
theorem Does.LZ{x:Operand}{id pos:Nat}{s:ByteArray}(hg:o.guard=none)(ho:o.op=.next x true)(hx:ev T x=.ptr id 0)(h2:H id=some (.iter s pos))(hlt:¬pos<s.size)
 (hk:K (.dH [.v (.bool false)]) H):Does P n ops o T H K:=by
 refine Does.val _ hg (λa w ρ h hr=>?_) hk
 have h5:=hr x
 rw[hx] at h5
 obtain⟨g,nD,hρ,hgg⟩:=K3 h h2 h5
 refine⟨.tuple #[.bool false],?_,.dH _ [.bool false] U (λj u y h6 h7=>?_)⟩
 ·unfold execOp
  rw[ho]
  simp only[nD,Sem.run_bind,BN (P:=P) w g s pos o.type hgg hlt,Result.andThen_ok,Sem.run_pure]
 ·match j with
  |0=>simp at h6 h7;subst h6 h7;exact .v _
  |j+1=>simp at h6
theorem Does.extract{x:Operand}{us:List AV}{i:Nat}{u:AV}(hg:o.guard=none)(ho:o.op=.extract x i)(hx:ev T x=.dH us)(hu:us[i]? =some u)(hk:K u H):Does P n ops o T H K:=by
 refine Does.val _ hg (λa w ρ h hr=>?_) hk
 have h5:=hr x
 rw[hx] at h5
 generalize nD:a.eval x=xx at h5
 cases h5 with
 |dH _ vs hl hr2=>
  have hlt:i<vs.length:=by rw[<-hl];exact(List.getElem?_eq_some_iff.1 hu).1
  refine⟨vs[i],?_,hr2 i u _ hu (List.getElem?_eq_getElem hlt)⟩
  unfold execOp
  rw[ho]
  simp only[Sem.run_bind,nD,Instr.extract]
  simp[hlt]
theorem Does.compare{f:FuncId}{fn:Func}{c x y:Operand}{at_:Array TypeId}{p q:ByteArray}(hg:o.guard=none)(ho:o.op=.call {callee:=.value c,args:= #[x,y],argTypes:=at_})(hc:ev T c=.lW f [])
 (hf:P.funcs[f]? =some fn) (hname:(fn.name== "runtime.NumGoroutine")=false) (hb:fn.body.isNone=true) (hn:Extern.findNext fn=none) (he:Extern.find fn=some Extern.BytealgCompare.compare)
 (hx:ev T x=.v (.string p)) (hy:ev T y=.v (.string q)) (hk:K (.v (.int .i64 (Lib.compareBytes p.data.toList q.data.toList))) H):Does P n ops o T H K:=by
 refine Does.val _ hg (λa w ρ h hr=>?_) hk
 have h5:=hr c;rw[hc] at h5
 have h6:=hr x;rw[hx] at h6
 have h7:=hr y;rw[hy] at h7
 obtain⟨vs,hv,hl,hvs⟩:=zl h5
 have NI:vs=[]:=List.eq_nil_of_length_eq_zero (by simpa using hl.symm)
 subst NI
 refine⟨_,?_,.v _⟩
 have h8:=run_callFunc_extern (P:=P) hf hname hb hn he #[.string p,.string q] w
 rw[Lib.run_compareString] at h8
 unfold execOp
 rw[ho]
 generalize a.eval=ev' at hv h6 h7⊢
 have e6:=aP h6
 have e7:=aP h7
 simp only[resolve,Deferred.ofValue,hv,invoke,Sem.run_bind,Sem.run_pure,Result.andThen_ok,List.map_toArray,List.map_cons,List.map_nil,e6,e7]
 simpa using h8
end
section
variable {P:Program} {n:Nat} {Q:oo->Sl->Hp->Prop} {H0:Hp} {c:Code} {l:List (Nat×AV)} {M:List (Nat×Ob)} {ops:Array Oper} {rest:List Oper} {o:Oper}
variable {d:Nat} {x y z:Operand} {u:AV} {t e sz b:Nat} {id k:Nat} {K:AV->List (Nat×Ob)->Prop}
theorem QS.extract{us:List AV}{i:Nat}(hg:o.guard=none)(ho:o.op=.extract x i)(hx:bA l x=some (.dH us))(hu:us[i]? =some u):QS P n ops H0 o l M u:=λ_=>Does.extract hg ho (aJ hx) hu ⟨rfl,rfl⟩
theorem US.compare{f:FuncId}{fn:Func}{cc:Operand}{at_:Array TypeId}{p q:ByteArray}(hd:o.dst=some d)(hn:d<n)(hg:o.guard=none)(ho:o.op=.call {callee:=.value cc,args:= #[x,y],argTypes:=at_})(hc:bA l cc=some (.lW f []))
 (hf:P.funcs[f]? =some fn) (hname:(fn.name== "runtime.NumGoroutine")=false) (hb:fn.body.isNone=true) (hnx:Extern.findNext fn=none) (he:Extern.find fn=some Extern.BytealgCompare.compare)
 (hx:bA l x=some (.v (.string p))) (hy:bA l y=some (.v (.string q))) (hk:US P n ops Q H0 rest ((d,.v (.int .i64 (Lib.compareBytes p.data.toList q.data.toList)))::l) M):US P n ops Q H0 (o::rest) l M:=
 US.step hd hn λaD=>Does.compare hg ho (aJ hc) hf hname hb hnx he (aJ hx) (aJ hy) ⟨M,rfl,aD,hk⟩
theorem US.D9(d:Nat){off len:Nat}(k:Nat){rows rs:List (List AV)}(hl:look l d=some (.own id off len sz))(h2:M[k]? =some (id,.row e sz rows))(hle:off+len<=rows.length)(hr:(rows.drop off).take len=rs)(hk:US P n ops Q H0 rest ((d,.sl rs)::l) (M.eraseIdx k)):US P n ops Q H0 rest l M:=
 US.freeze d k hl h2 hle (by rw[hr];exact hk)
def WX(sz:Nat)(jv:List (List AV)):Bool:=jv.all λcs=>cs.all cK&&cs.length==sz
theorem dx{jv:List (List AV)}(h:WX sz jv=true):∀cs∈jv,cs.all cK=true/\cs.length=sz:=by
 intro cs hcs
 have:=List.all_eq_true.1 h cs hcs
 rw[Bool.and_eq_true,beq_iff_eq] at this
 exact this
end
end
end Go.gW
end
