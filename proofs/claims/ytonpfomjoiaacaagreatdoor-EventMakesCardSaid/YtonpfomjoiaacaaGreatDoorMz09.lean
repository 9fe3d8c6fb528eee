/- A part of the proof. -/
import Derived.Test.YtonpfomjoiaacaaGreatDoorMz08
set_option maxRecDepth 100000
set_option maxHeartbeats 4000000
set_option linter.unusedSectionVars false
set_option linter.unusedVariables false
set_option linter.unusedSimpArgs false
section
namespace Go.fT
open Go Go.RowKit
section
variable [Rd]
section
variable {P:Program} {n:Nat} {ops:Array Oper} {H0:Hp} {l:List (Nat×AV)} {I:List (Nat×Ob)} {o:Oper}
variable {x y:Operand} {u:AV} {t e sz b:Nat} {id k:Nat} {cells:List AV} {rows:List (List AV)}
theorem QS.move(hg:o.guard=none)(ho:o.op=.move x)(hx:aT l x=some u):QS P n ops H0 o l I u:=λ_=>Does.move hg ho ⟨aG hx,rfl⟩
theorem QS.assign(hg:o.guard=none)(ho:o.op=.assign x)(hx:aT l x=some u):QS P n ops H0 o l I u:=λ_=>Does.assign hg ho ⟨aG hx,rfl⟩
theorem QS.dI{ls:List AV}(hg:o.guard=none)(ho:o.op=.load t x)(ht:dY P t=some (true,sz))(hx:aT l x=some (.ptr id 0))(h2:I[k]? =some (id,.box e ls))(hl:ls.length=sz):QS P n ops H0 o l I (.agg ls):=
 λay=>Does.uz hg ho (aG hx) (ay.at_ h2) ht (by simp[cellsOf,hl]) ⟨by rw[<-hl];simp[cellsOf],rfl⟩
theorem QS.aJ{off:Nat}{ls:List AV}(hg:o.guard=none)(ho:o.op=.load t x)(ht:dY P t=some (false,sz))(hx:aT l x=some (.ptr id off))(h2:I[k]? =some (id,.box e ls))(hr:ls[off]? =some u):QS P n ops H0 o l I u:=
 λay=>Does.nX hg ho (aG hx) (ay.at_ h2) ht hr ⟨rfl,rfl⟩
theorem QS.lY{off:Nat}{ls rs:List AV}(hg:o.guard=none)(ho:o.op=.load t x)(ht:dY P t=some (true,sz))(hx:aT l x=some (.ptr id off))(h2:I[k]? =some (id,.box e ls))(hr:CZ ls off sz=some rs):QS P n ops H0 o l I (.agg rs):=
 λay=>Does.uz hg ho (aG hx) (ay.at_ h2) ht (Cm hr).2 ⟨by rw[<-(Cm hr).1];rfl,rfl⟩
theorem QS.fB(hg:o.guard=none)(ho:o.op=.load t x)(hx:aT l x=some (.rp cells))(ht:dY P t=some (true,sz))(hl:cells.length=sz):QS P n ops H0 o l I (.agg cells):=
 λ_=>Does.fB hg ho (aG hx) (by rw[hl];exact ht) ⟨rfl,rfl⟩
theorem QS.bD{r:List AV}(hg:o.guard=none)(ho:o.op=.load t x)(hx:aT l x=some (.rp (u::r)))(ht:dY P t=some (false,sz)):QS P n ops H0 o l I u:=
 λ_=>Does.bD hg ho (aG hx) ht ⟨rfl,rfl⟩
theorem QS.KU{off:Nat}{cs:List AV}(hg:o.guard=none)(ho:o.op=.load t x)(ht:dY P t=some (false,sz))(hx:aT l x=some (.ptr id off))(h2:I[k]? =some (id,.row e 1 rows)){i:Nat}(hoff:off=i*1)(hrows:∀cs∈rows,cs.length=1)(hi:rows[i]? =some (u::cs)):QS P n ops H0 o l I u:=by
 intro ay
 refine Does.nX hg ho (aG hx) (ay.at_ h2) ht ?_ ⟨rfl,rfl⟩
 have h1:=gJ 1 (by decide) rows hrows i _ 0 hi (by decide)
 show rows.flatten[off]? =some u
 rw[hoff]
 simpa using h1
theorem QS.fieldAddr{f off off':Nat}(hg:o.guard=none)(ho:o.op=.fieldAddr t x f)(hx:aT l x=some (.ptr id off))(h:dE P t f=some off'):QS P n ops H0 o l I (.ptr id (off+off')):=λ_=>Does.fieldAddr hg ho (aG hx) h ⟨rfl,rfl⟩
theorem QS.xe{f off':Nat}{ls:List AV}(hg:o.guard=none)(ho:o.op=.field t x f)(hx:aT l x=some (.agg ls))(h:rH P t f=some (off',false,sz))(hu:ls[off']? =some u):QS P n ops H0 o l I u:=λ_=>Does.xe hg ho (aG hx) h hu ⟨rfl,rfl⟩
theorem QS.bI{ki:IntKind}{i:Int}{cs:List AV}(hg:o.guard=none)(ho:o.op=.indexAddr t x y)(ht:j6 P t=some (e,sz,b))(hx:aT l x=some (.sl rows))(hy:aT l y=some (.v (.int ki i)))(h0:0<=i)(h1:rows[i.toNat]? =some cs)(hs:cs.length=sz):QS P n ops H0 o l I (.rp cs):=λ_=>Does.bI hg ho ht (aG hx) (aG hy) h0 h1 hs ⟨rfl,rfl⟩
theorem QS.qA{ki:IntKind}{i:Int}{off len:Nat}(hg:o.guard=none)(ho:o.op=.indexAddr t x y)(ht:j6 P t=some (e,sz,b))(hx:aT l x=some (.own id off len sz))(hy:aT l y=some (.v (.int ki i)))(h0:0<=i)(h1:i<len):QS P n ops H0 o l I (.ptr id ((off+i.toNat)*sz)):=λ_=>Does.qA hg ho ht (aG hx) (aG hy) h0 h1 ⟨rfl,rfl⟩
theorem QS.bu{ki:IntKind}{i c:Int}{str:ByteArray}(hg:o.guard=none)(ho:o.op=.index t x y)(ht:P.underlying t=some .string)(hx:aT l x=some (.v (.string str)))(hy:aT l y=some (.v (.int ki i)))(h0:0<=i)(h1:i<str.size)(hcc:c=((str[i.toNat]'(by omega)).toNat:Int)):QS P n ops H0 o l I (.v (.int .u8 c)):=λ_=>Does.bu hg ho ht (aG hx) (aG hy) h0 h1 hcc ⟨rfl,rfl⟩
theorem QS.oH{lo hi:Option Operand}{a a':Nat}{rs:List (List AV)}(hg:o.guard=none)(ho:o.op=.slice t x lo hi none)(ht:j6 P t=some (e,sz,b))(hx:aT l x=some (.sl rows))(hs:∀cs∈rows,cs.length=sz)(hb:lh l rows.length lo hi a a')(h1:a<=a')(h2:a'<=rows.length)(hr:(rows.take a').drop a=rs):QS P n ops H0 o l I (.sl rs):=λ_=>Does.oH hg ho ht (aG hx) hs hb.to h1 h2 ⟨by rw[hr],rfl⟩
theorem QS.jS{lo hi:Option Operand}{a a' off len:Nat}(hg:o.guard=none)(ho:o.op=.slice t x lo hi none)(ht:j6 P t=some (e,sz,b))(hx:aT l x=some (.own id off len sz))(hb:lh l len lo hi a a')(h1:a<=a')(h2:a'<=len):QS P n ops H0 o l I (.own id (off+a) (a'-a) sz):=λ_=>Does.jS hg ho ht (aG hx) hb.to h1 h2 ⟨rfl,rfl⟩
theorem QS.nZ{lo hi:Option Operand}{a a':Nat}{str:ByteArray}(hg:o.guard=none)(ho:o.op=.slice t x lo hi none)(ht:P.underlying t=some .string)(hx:aT l x=some (.v (.string str)))(hb:lh l str.size lo hi a a')(h1:a<=a')(h2:a'<=str.size):QS P n ops H0 o l I (.v (.string (str.extract a a'))):=λ_=>Does.nZ hg ho ht (aG hx) hb.to h1 h2 ⟨rfl,rfl⟩
theorem QS.fC(hg:o.guard=none)(ho:o.op=.call {callee:=.builtin .len,args:= #[x],argTypes:= #[t]})(ht:j6 P t=some (e,sz,b))(hx:aT l x=some (.sl rows)):QS P n ops H0 o l I (.v (.int .i64 (rows.length:Int))):=λ_=>Does.fC hg ho ht (aG hx) ⟨rfl,rfl⟩
theorem QS.il{off len:Nat}(hg:o.guard=none)(ho:o.op=.call {callee:=.builtin .len,args:= #[x],argTypes:= #[t]})(ht:j6 P t=some (e,sz,b))(hx:aT l x=some (.own id off len sz)):QS P n ops H0 o l I (.v (.int .i64 (len:Int))):=λ_=>Does.il hg ho ht (aG hx) ⟨rfl,rfl⟩
theorem QS.len_nil(hg:o.guard=none)(ho:o.op=.call {callee:=.builtin .len,args:= #[x],argTypes:= #[t]})(ht:j6 P t=some (e,sz,b))(hx:aT l x=some (.v (.slice none 0 0))):QS P n ops H0 o l I (.v (.int .i64 0)):=λ_=>Does.len_nil hg ho ht (aG hx) ⟨rfl,rfl⟩
theorem QS.qa{str:ByteArray}(hg:o.guard=none)(ho:o.op=.call {callee:=.builtin .len,args:= #[x],argTypes:= #[t]})(ht:P.underlying t=some .string)(hx:aT l x=some (.v (.string str))):QS P n ops H0 o l I (.v (.int .i64 (str.size:Int))):=λ_=>Does.qa hg ho ht (aG hx) ⟨rfl,rfl⟩
theorem QS.az{op:BinOp}{t2:Nat}{ki:IntKind}{a c:Int}{r:Value}(hg:o.guard=none)(ho:o.op=.binOp op t x y t2)(hx:aT l x=some (.v (.int ki a)))(hy:aT l y=some (.v (.int ki c)))(h:dZ op ki a c=some r):QS P n ops H0 o l I (.v r):=λ_=>Does.az hg ho (aG hx) (aG hy) h ⟨rfl,rfl⟩
theorem QS.add{t2:Nat}{ki:IntKind}{a c r:Int}(hg:o.guard=none)(ho:o.op=.binOp .add t x y t2)(hx:aT l x=some (.v (.int ki a)))(hy:aT l y=some (.v (.int ki c)))(hr:ki.wrap (a+c)=r):QS P n ops H0 o l I (.v (.int ki r)):=QS.az hg ho hx hy (by rw[<-hr];rfl)
theorem QS.sub{t2:Nat}{ki:IntKind}{a c r:Int}(hg:o.guard=none)(ho:o.op=.binOp .sub t x y t2)(hx:aT l x=some (.v (.int ki a)))(hy:aT l y=some (.v (.int ki c)))(hr:ki.wrap (a-c)=r):QS P n ops H0 o l I (.v (.int ki r)):=QS.az hg ho hx hy (by rw[<-hr];rfl)
theorem QS.mul{t2:Nat}{ki:IntKind}{a c r:Int}(hg:o.guard=none)(ho:o.op=.binOp .mul t x y t2)(hx:aT l x=some (.v (.int ki a)))(hy:aT l y=some (.v (.int ki c)))(hr:ki.wrap (a*c)=r):QS P n ops H0 o l I (.v (.int ki r)):=QS.az hg ho hx hy (by rw[<-hr];rfl)
theorem QS.iG{op:BinOp}{t2:Nat}{a c:ByteArray}{r:Bool}(hg:o.guard=none)(ho:o.op=.binOp op t x y t2)(hx:aT l x=some (.v (.string a)))(hy:aT l y=some (.v (.string c)))(h:eH op a c=some r):QS P n ops H0 o l I (.v (.bool r)):=λ_=>Does.iG hg ho (aG hx) (aG hy) h ⟨rfl,rfl⟩
theorem QS.H5{t2:Nat}{a c:ByteArray}(hg:o.guard=none)(ho:o.op=.binOp .add t x y t2)(hx:aT l x=some (.v (.string a)))(hy:aT l y=some (.v (.string c)))(h:a.size+c.size<=9223372036854775807):QS P n ops H0 o l I (.v (.string (a++c))):=λ_=>Does.H5 hg ho (aG hx) (aG hy) h ⟨rfl,rfl⟩
theorem QS.SY{t2:Nat}{a c:Bool}(hg:o.guard=none)(ho:o.op=.binOp .eql t x y t2)(ht:P.underlying t=some .bool)(hx:aT l x=some (.v (.bool a)))(hy:aT l y=some (.v (.bool c))):QS P n ops H0 o l I (.v (.bool (a==c))):=λ_=>Does.H6 hg ho ht (aG hx) (aG hy) ⟨rfl,rfl⟩
theorem QS.not{a:Bool}(hg:o.guard=none)(ho:o.op=.unOp .not t x)(hx:aT l x=some (.v (.bool a))):QS P n ops H0 o l I (.v (.bool (!a))):=λ_=>Does.not hg ho (aG hx) ⟨rfl,rfl⟩
theorem QS.conv{s2:Nat}{ki kj:IntKind}{a r:Int}(hg:o.guard=none)(ho:o.op=.convert t s2 x)(hs:(P.underlying t).isSome=true)(ht:P.underlying s2=some (.int kj))(hx:aT l x=some (.v (.int ki a)))(hr:kj.wrap a=r):QS P n ops H0 o l I (.v (.int kj r)):=λ_=>Does.yJ hg ho hs ht (aG hx) ⟨by rw[hr],rfl⟩
theorem QS.min2{at_:Array TypeId}{ki kj:IntKind}{a c:Int}(hg:o.guard=none)(ho:o.op=.call {callee:=.builtin .min,args:= #[x,y],argTypes:=at_})(hx:aT l x=some (.v (.int ki a)))(hy:aT l y=some (.v (.int kj c))):QS P n ops H0 o l I (.v (.int ki (if c<a then c else a))):=λ_=>Does.min2 hg ho (aG hx) (aG hy) ⟨rfl,rfl⟩
theorem QS.build{parts:Array (Nat×Operand)}{zs:List Value}{places:List (Nat×Nat)}{us KV rs:List AV}{jH:List (List AV)}(gL:List Nat)(hg:o.guard=none)(ho:o.op=.build t parts)(ht:ny P t=some (zs,places))(hz:zs.all (·.oneCell')=true)(hv:vals zs=some KV)
 (ha:gW l (parts.toList.map (·.2))=some us) (hf:lu us=some jH) (hc:(jH.all λcs=>cs.all aR)=true) (hp:kg places (parts.toList.map (·.1)) gL (jH.map (·.length))=true) (hr:yN KV gL jH=some rs):QS P n ops H0 o l I (.agg rs):=by
 intro _
 have e1:=jC ha
 have e2:=lX hf
 have e3:=C8 hr
 have e4:(parts.toList.map λp=>ev (fI l) p.2)=us:=by rw[<-e1,List.map_map];rfl
 have Zq:us.length=parts.toList.length:=by rw[<-e4,List.length_map]
 have husl:jH.length=us.length:=by rw[<-e2,List.length_map]
 refine Does.build gL hg ho ht hz (by rw[e3.2.1,husl,Zq]) (λj p off h1 h2=>?_) ⟨?_,rfl⟩
 ·have h3:us[j]? =some (ev (fI l) p.2):=by rw[<-e4,List.getElem?_map,h1];rfl
  have h4:jH[j]? =some (flat (ev (fI l) p.2)):=by rw[<-e2,List.getElem?_map,h3];rfl
  refine⟨List.all_eq_true.1 hc _ (List.mem_of_getElem? h4),?_,?_⟩
  ·exact yO hp j p.1 off _ (by rw[List.getElem?_map,h1];rfl) h2 (by rw[List.getElem?_map,h4];rfl)
  ·have h5:=e3.2.2 j off _ h2 h4
   rw[<-qc hv,List.length_map] at h5
   exact h5
 ·rw[e4,e2,qc hv,e3.1]
theorem QS.oK{len:Nat}{parts:Array (Nat×Operand)}{us:List AV}{jH:List (List AV)}(hg:o.guard=none)(ho:o.op=.buildSlice t len parts)(ht:jE P t e sz b)(hl:len*sz<=2^24)
 (hp:parts.toList.map (·.1)=List.range len) (ha:gW l (parts.toList.map (·.2))=some us) (hf:lu us=some jH) (hc:∀cs∈jH,cs.all aR=true/\cs.length=sz):QS P n ops H0 o l I (.sl jH):=by
 intro _
 have e1:=jC ha
 have e2:=lX hf
 have e4:(parts.toList.map λp=>flat (ev (fI l) p.2))=jH:=by rw[<-e2,<-e1,List.map_map,List.map_map];rfl
 exact Does.wN hg ho ht hl hp (λp hp'=>hc _ (by rw[<-e4];exact List.mem_map_of_mem (f:=λp=>flat (ev (fI l) p.2)) hp')) ⟨by rw[e4],rfl⟩
def bz(H:Hp)(r:AV)(u:AV)(H':Hp):Prop:=u=r/\H'=H
theorem QS.call{f:Nat}{cc:Operand}{args:Array Operand}{at_:Array TypeId}{bS us:List AV}{r:AV}(hg:o.guard=none)(ho:o.op=.call {callee:=.value cc,args:=args,argTypes:=at_})(hc:aT l cc=some (.gN f bS))(ha:gW l args.toList=some us)
 (h:aM H0 I->au P f (us++bS) (aC H0 I) (bz (aC H0 I) r)):QS P n ops H0 o l I r:=
 λay=>Does.call hg ho (aG hc) (by rw[jC ha];exact h ay)
theorem QS.on{g:Nat×Bool}{dg:Nat}(hg:o.guard=some g)(hdg:(ops[g.1]?).bind (·.dst)=some dg)(hdn:dg<n)(hT:look l dg=some (.v (.bool g.2)))(h:QS P n ops H0 {o with guard:=none} l I u):QS P n ops H0 o l I u:=λay=>
 Does.PO (h ay) hg hdg hdn (by unfold fI;rw[hT];rfl)
theorem QS.CX{g:Nat×Bool}{dg:Nat}{bb:Bool}(hg:o.guard=some g)(hdg:(ops[g.1]?).bind (·.dst)=some dg)(hT:look l dg=some (.v (.bool bb)))(hb:bb=!g.2):QS P n ops H0 o l I (.v undef):=by
 intro ay a w ρ h1 h2 h3 h4 N Q hN
 have h5:=h4 dg
 have h6:fI l dg=.v (.bool bb):=by unfold fI;rw[hT];rfl
 rw[h6] at h5
 have h7:=aS h5
 have h8:a.tmps[dg]? =none\/a.tmps[dg]? =some (a.tmps.getD dg undef):=by
  rw[Array.getD_eq_getD_getElem?]
  cases h:a.tmps[dg]? <;>simp
 rw[h7] at h8
 have hw:¬Region.wanted o (yielded ops a.tmps)=true:=by
  rcases h8 with h8|h8<;>cases hgb:g.2<;>simp[Region.wanted,hg,yielded,hdg,h8,hb,hgb]
 rw[if_neg hw]
 exact hN undef w ρ _ _ h3 (Ext.refl _ _ _) (.v undef) ⟨rfl,rfl⟩
theorem QS.wO{g:Nat×Bool}{dg:Nat}(hg:o.guard=some g)(hdg:(ops[g.1]?).bind (·.dst)=some dg)(hT:look l dg=some (.v undef)):QS P n ops H0 o l I (.v undef):=by
 intro ay a w ρ h1 h2 h3 h4 N Q hN
 have h5:=h4 dg
 have h6:fI l dg=.v undef:=by unfold fI;rw[hT];rfl
 rw[h6] at h5
 have h7:=aS h5
 have h8:a.tmps[dg]? =none\/a.tmps[dg]? =some (a.tmps.getD dg undef):=by
  rw[Array.getD_eq_getD_getElem?]
  cases h:a.tmps[dg]? <;>simp
 rw[h7] at h8
 have hw:¬Region.wanted o (yielded ops a.tmps)=true:=by
  rcases h8 with h8|h8<;>simp[Region.wanted,hg,yielded,hdg,h8,undef]
 rw[if_neg hw]
 exact hN undef w ρ _ _ h3 (Ext.refl _ _ _) (.v undef) ⟨rfl,rfl⟩
theorem US.qs{Q:qH->Sl->Hp->Prop}{rest:List Oper}{d:Nat}(hd:o.dst=some d)(hn:d<n)(h:QS P n ops H0 o l I u)(hk:US P n ops Q H0 rest ((d,u)::l) I):US P n ops Q H0 (o::rest) l I:=
 US.step hd hn λay=>(h ay).mono λu' H' ⟨h1,h2⟩=>⟨I,h2,ay,by rw[h1];exact hk⟩
theorem QS.pick{c:Operand}{bb:Bool}{r:AV}(hg:o.guard=none)(ho:o.op=.pick c x y)(hc:aT l c=some (.v (.bool bb)))(hr:(if bb then aT l x else aT l y)=some r):QS P n ops H0 o l I r:=λ_=>Does.pick hg ho (aG hc) ⟨by cases bb<;>exact aG hr,rfl⟩
def QF(P:Program)(n:Nat)(ops:Array Oper)(H0:Hp)(o:Oper)(l:List (Nat×AV))(u:AV):Prop:=∀I,QS P n ops H0 o l I u
theorem QF.move(hg:o.guard=none)(ho:o.op=.move x)(hx:aT l x=some u):QF P n ops H0 o l u:=λI=>QS.move hg ho hx
theorem QF.fieldAddr{f off off':Nat}(hg:o.guard=none)(ho:o.op=.fieldAddr t x f)(hx:aT l x=some (.ptr id off))(h:dE P t f=some off'):QF P n ops H0 o l (.ptr id (off+off')):=λI=>QS.fieldAddr hg ho hx h
theorem QF.bI{ki:IntKind}{i:Int}{cs:List AV}(hg:o.guard=none)(ho:o.op=.indexAddr t x y)(ht:j6 P t=some (e,sz,b))(hx:aT l x=some (.sl rows))(hy:aT l y=some (.v (.int ki i)))(h0:0<=i)(h1:rows[i.toNat]? =some cs)(hs:cs.length=sz):QF P n ops H0 o l (.rp cs):=λI=>QS.bI hg ho ht hx hy h0 h1 hs
theorem QF.oH{lo hi:Option Operand}{a a':Nat}{rs:List (List AV)}(hg:o.guard=none)(ho:o.op=.slice t x lo hi none)(ht:j6 P t=some (e,sz,b))(hx:aT l x=some (.sl rows))(hs:∀cs∈rows,cs.length=sz)(hb:lh l rows.length lo hi a a')(h1:a<=a')(h2:a'<=rows.length)(hr:(rows.take a').drop a=rs):QF P n ops H0 o l (.sl rs):=λI=>QS.oH hg ho ht hx hs hb h1 h2 hr
theorem QF.jS{lo hi:Option Operand}{a a' off len:Nat}(hg:o.guard=none)(ho:o.op=.slice t x lo hi none)(ht:j6 P t=some (e,sz,b))(hx:aT l x=some (.own id off len sz))(hb:lh l len lo hi a a')(h1:a<=a')(h2:a'<=len):QF P n ops H0 o l (.own id (off+a) (a'-a) sz):=λI=>QS.jS hg ho ht hx hb h1 h2
theorem QF.iG{op:BinOp}{t2:Nat}{a c:ByteArray}{r:Bool}(hg:o.guard=none)(ho:o.op=.binOp op t x y t2)(hx:aT l x=some (.v (.string a)))(hy:aT l y=some (.v (.string c)))(h:eH op a c=some r):QF P n ops H0 o l (.v (.bool r)):=λI=>QS.iG hg ho hx hy h
def app:List (Nat×AV)->List (Nat×AV)->List (Nat×AV)
 |[],l=>l
 |p::r,l=>p::app r l
def bV:List (Option (Nat×AV))->List (Nat×AV)->List (Nat×AV)
 |[],l=>l
 |none::r,l=>bV r l
 |some p::r,l=>bV r (p::l)
theorem S9:∀(a b:List (Nat×AV)),app a b=a++b
 |[],_=>rfl
 |p::r,b=>by rw[app,S9 r b];rfl
theorem Ia:∀(a:List (Option (Nat×AV))) (b:List (Nat×AV)),bV a b=(a.filterMap λq=>q).reverse++b
 |[],_=>rfl
 |none::r,b=>by rw[bV,Ia r b];rfl
 |some p::r,b=>by rw[bV,Ia r (p::b)];simp
section
variable {ol:List Oper} {Q:qH->Sl->Hp->Prop} {B cs k1:List Nat} {pre r:List (Option (Nat×AV))} {cr:List (Nat×AV)} {i c d:Nat} {u':AV} {keep:List (Nat×Ob)}
theorem UW.bG{Nk:Nat}(hm:P.follows .mixedOrders=true)(B:List Nat)(ds:List (Option Nat))(pre:List (Option (Nat×AV)))(cs k1:List Nat)(hpre:(pre.map λo=>o.map (·.1))=ds)(he:lC B ol 0=true)(hch:rQ B ds cs k1 (dstsOf ol)=true)
 (hq:M P n ol H0 I B k1 pre l [] pre 0) (hk:CH P n ol Q H0 B pre l [] cs [] I):UW P n Q H0 (.region Nk ol.toArray true) l I:=UW.draw hm B pre cs k1 he (by rw[hpre];exact hch) hq hk
def pick{α:Type}(r:List α):List Nat->List α
 |[]=>[]
 |k::ks=>match r[k]? with
  |some p=>p::pick r ks
  |none=>pick r ks
theorem UW.Gl{Nk:Nat}(hm:P.follows .mixedOrders=true)(kp:List Nat)(B:List Nat)(ds:List (Option Nat))(pre:List (Option (Nat×AV)))(cs k1:List Nat)(hpre:(pre.map λo=>o.map (·.1))=ds)(he:lC B ol 0=true)(hch:rQ B ds cs k1 (dstsOf ol)=true)
 (hq:M P n ol H0 I B k1 pre l (pick I kp) pre 0) (hk:CH P n ol Q H0 B pre l (pick I kp) cs [] I):UW P n Q H0 (.region Nk ol.toArray true) l I:=UW.draw hm B pre cs k1 he (by rw[hpre];exact hch) hq hk
theorem QD{i j:Nat}{a b:Ob}{r:List (Nat×Ob)}(h:i≠j):aC H0 ((i,a)::(j,b)::r)=aC H0 ((j,b)::(i,a)::r):=by
 funext k
 simp only[aC,set]
 by_cases hi:k=i
 ·by_cases hj:k=j
  ·omega
  ·simp[hi,h]
 ·simp[hi]
theorem QE{i j:Nat}{a b:Ob}{r:List (Nat×Ob)}(h:aM H0 ((i,a)::(j,b)::r)):i≠j/\aM H0 ((j,b)::(i,a)::r):=by
 cases h with
 |cons h1 h2=>
  cases h2 with
  |cons h3 h4=>
   have hij:i≠j:=λe=>by subst e;simp[aC] at h1
   have h5:aC H0 r i=none:=by
    have h1':=h1
    simp only[aC] at h1'
    rw[dM _ _ hij] at h1'
    exact h1'
   refine⟨hij,.cons ?_ (.cons h5 h4)⟩
   simp only[aC]
   rw[dM _ _ (Ne.symm hij)]
   exact h3
theorem UQ.swap{Q:qH->Sl->Hp->Prop}{e:qH}{l:List (Nat×AV)}{p q:Nat×Ob}{r:List (Nat×Ob)}(h:UQ Q H0 e l (q::p::r)):UQ Q H0 e l (p::q::r):=λhd=>by
 obtain⟨h1,h2⟩:=QE hd
 rw[QD h1]
 exact h h2
theorem UW.Ta{Nk:Nat}(hm:P.follows .mixedOrders=true)(kp:List Nat)(B:List Nat)(ds:List (Option Nat))(pre:List (Option (Nat×AV)))(cs cs2 k1:List Nat)(hpre:(pre.map λo=>o.map (·.1))=ds)(he:lC B ol 0=true)(hch:yQ B ds cs k1 (dstsOf ol)=true)(hch2:yQ B ds cs2 k1 (dstsOf ol)=true)(hh:Nl B [cs,cs2]=true)
 (hq:M P n ol H0 I B k1 pre l (pick I kp) pre 0) (hk:CH P n ol Q H0 B pre l (pick I kp) cs [] I) (hk2:CH P n ol Q H0 B pre l (pick I kp) cs2 [] I):UW P n Q H0 (.region Nk ol.toArray true) l I:=by
 subst hpre
 refine UW.draws hm B pre [cs,cs2] cs k1 (by simp) he (λc hc=>?_) (λc hc=>?_) (Nn hh) hq (λc hc=>?_)
 ·rcases List.mem_cons.1 hc with rfl|hc
  ·exact iO.ofW hch
  ·rw[List.mem_singleton.1 hc];exact iO.ofW hch2
 ·rcases List.mem_cons.1 hc with rfl|hc
  ·exact ordW hch
  ·rw[List.mem_singleton.1 hc];exact ordW hch2
 ·rcases List.mem_cons.1 hc with rfl|hc
  ·exact hk
  ·rw[List.mem_singleton.1 hc];exact hk2
theorem M.nil:M P n ol H0 I B k1 pre l keep [] i:=trivial
theorem M.skip(h:M P n ol H0 I B k1 pre l keep r (i+1)):M P n ol H0 I B k1 pre l keep (none::r) i:=h
theorem M.free(hn:d<n)(ho:ol[i]? =some o)(hk:k1.contains i=false)(hq:QF P n ol.toArray H0 o (mP B (dstsOf ol) pre [] l i) u)(h:M P n ol H0 I B k1 pre l keep r (i+1)):M P n ol H0 I B k1 pre l keep (some (d,u)::r) i:=
 ⟨⟨hn,o,ho,by rw[if_neg (by simpa using hk)];exactλI _=>hq I⟩,h⟩
def QK(P:Program)(n:Nat)(ops:Array Oper)(H0:Hp)(o:Oper)(l:List (Nat×AV))(keep:List (Nat×Ob))(u:AV):Prop:=∀I,Has keep I->QS P n ops H0 o l I u
theorem M.kept(hn:d<n)(ho:ol[i]? =some o)(hk:k1.contains i=false)(hq:QK P n ol.toArray H0 o (mP B (dstsOf ol) pre [] l i) keep u)(h:M P n ol H0 I B k1 pre l keep r (i+1)):M P n ol H0 I B k1 pre l keep (some (d,u)::r) i:=
 ⟨⟨hn,o,ho,by rw[if_neg (by simpa using hk)];exact hq⟩,h⟩
theorem M.held(hn:d<n)(ho:ol[i]? =some o)(hk:k1.contains i=true)(hq:QS P n ol.toArray H0 o (mP B (dstsOf ol) pre [] l i) I u)(h:M P n ol H0 I B k1 pre l keep r (i+1)):M P n ol H0 I B k1 pre l keep (some (d,u)::r) i:=
 ⟨⟨hn,o,ho,by rw[if_pos (by simpa using hk)];exact hq⟩,h⟩
def DS(P:Program)(n:Nat)(ops:Array Oper)(H0:Hp)(o:Oper)(l:List (Nat×AV))(I:List (Nat×Ob))(K:AV->List (Nat×Ob)->Prop):Prop:=
 aM H0 I->Does P n ops o (fI l) (aC H0 I) (λu H'=>∃aL,H'=aC H0 aL/\aM H0 aL/\K u aL)
theorem CH.nil(h:UQ Q H0 .normal (app cr (bV pre l)) I)(hs:Has keep I:=by exact .n):CH P n ol Q H0 B pre l keep [] cr I:=by
 rw[S9,Ia] at h;exact⟨hs,h⟩
theorem CH.cons(ho:ol[c]? =some o)(hd:o.dst=some d)(hn:d<n)(h:DS P n ol.toArray H0 o (mP B (dstsOf ol) pre cr l c) I (λu aL=>CH P n ol Q H0 B pre l keep cs ((d,u)::cr) aL))(hs:Has keep I:=by exact .n):CH P n ol Q H0 B pre l keep (c::cs) cr I:=
 ⟨hs,o,ho,λd' hd'=>(by rw[hd] at hd';cases hd';exact hn),by rw[hd];exact h⟩
theorem CH.df(ho:ol[c]? =some o)(hd:o.dst=none)(h:DS P n ol.toArray H0 o (mP B (dstsOf ol) pre cr l c) I (λ_ aL=>CH P n ol Q H0 B pre l keep cs cr aL))(hs:Has keep I:=by exact .n):CH P n ol Q H0 B pre l keep (c::cs) cr I:=
 ⟨hs,o,ho,λd' hd'=>(by rw[hd] at hd';cases hd'),by rw[hd];exact h⟩
end
section
variable {K:AV->List (Nat×Ob)->Prop} {off:Nat}
theorem DS.qs(h:QS P n ops H0 o l I u)(hk:K u I):DS P n ops H0 o l I K:=λay=>(h ay).mono λ_ _ ⟨h1,h2⟩=>⟨I,h2,ay,by rw[h1];exact hk⟩
theorem DS.fD{ls ls':List AV}{aL:List (Nat×Ob)}{bb:Bool}(hg:o.guard=none)(ho:o.op=.store t x y)(ht:dY P t=some (bb,sz))(hx:aT l x=some (.ptr id off))(h2:I[k]? =some (id,.box e ls))(hy:aT l y=some u)(hf:oI u=some cells)(hc:cells.all aR=true)
 (hl:cells.length=sz) (hr:uB ls off cells=some ls') (iD:I.set k (id,.box e ls')=aL) (hk:∀u,K u aL):DS P n ops H0 o l I K:=by
 subst iD
 exactλay=>Does.nY hg ho (aG hx) (ay.at_ h2) (by rw[aG hy,fu hf];exact hc) (by rw[aG hy,fu hf,hl];exact ht) (by rw[aG hy,fu hf];exact(rP hr).2)
  ⟨_,by rw[aG hy,fu hf,(rP hr).1];exact(ay.jF _ h2).1,(ay.jF _ h2).2,hk _⟩
theorem DS.bU{ls:List AV}{aL:List (Nat×Ob)}{bb:Bool}(hg:o.guard=none)(ho:o.op=.store t x y)(ht:dY P t=some (bb,sz))(hx:aT l x=some (.ptr id 0))(h2:I[k]? =some (id,.box e ls))(hls:ls.length=sz)(hy:aT l y=some u)(hf:oI u=some cells)(hc:cells.all aR=true)
 (hl:cells.length=sz) (iD:I.set k (id,.box e cells)=aL) (hk:∀u,K u aL):DS P n ops H0 o l I K:=by
 subst iD
 exactλay=>Does.nY hg ho (aG hx) (ay.at_ h2) (by rw[aG hy,fu hf];exact hc) (by rw[aG hy,fu hf,hl];exact ht) (by rw[aG hy,fu hf,hls];omega)
  ⟨_,by rw[aG hy,fu hf,xh cells ls (by rw[hl,hls])];exact(ay.jF _ h2).1,(ay.jF _ h2).2,hk _⟩
theorem DS.Aa{i:Nat}{bb:Bool}(hg:o.guard=none)(ho:o.op=.store t x y)(hx:aT l x=some (.ptr id off))(h2:I[k]? =some (id,.row e sz rows))(hoff:off=i*sz)(hi:i<rows.length)(hy:aT l y=some u)(hf:oI u=some cells)(hc:cells.all aR=true)
 (ht:dY P t=some (bb,sz)) (hl:cells.length=sz) (hz:0<sz) (hrows:∀cs∈rows,cs.length=sz)
 (hk:∀u,K u (I.set k (id,.row e sz (rows.set i cells)))):DS P n ops H0 o l I K:=
 λay=>Does.Aa (rows.set i cells) hg ho (aG hx) (ay.at_ h2) (by rw[aG hy,fu hf];exact hc) (by rw[aG hy,fu hf,hl];exact ht)
  (by rw[aG hy,fu hf,hl,hoff,dQ sz _ hrows,<-Nat.succ_mul];exact Nat.mul_le_mul_right _ hi)
  (by rw[aG hy,fu hf,hoff];exact KM sz hz rows hrows i cells hi hl) (by simp) (λcs hcs=>by
    rcases List.mem_or_eq_of_mem_set hcs with h1|h1
    ·exact hrows cs h1
    ·rw[h1,hl])
  ⟨_,(ay.jF _ h2).1,(ay.jF _ h2).2,hk _⟩
theorem DS.gQ{s:Operand}{len:Nat}{news rs:List (List AV)}(hg:o.guard=none)(ho:o.op=.call {callee:=.builtin .append,args:= #[s,x],argTypes:= #[t,t]})(ht:jE P t e sz b)
 (hs:aT l s=some (.own id 0 len sz)) (h2:I[k]? =some (id,.row e sz rows)) (hle:len<=rows.length) (hx:aT l x=some u) (hsrc:rO I sz u news) (hb:(len+news.length)*b<=140737488355328) (hr:rows.take len++news=rs)
 (hk:∀id',K (.own id' 0 (len+news.length) sz) ((id',.row e sz rs)::I.eraseIdx k)):DS P n ops H0 o l I K:=
 λay=>by
  have oJ:=ay.kill h2
  refine Does.gQ hg ho ht (aG hs) (ay.at_ h2) hle (by rw[aG hx];exact hsrc.to ay) hb λid' hid=>⟨(id',.row e sz rs)::I.eraseIdx k,?_,?_,hk id'⟩
  ·rw[oJ.1,hr];rfl
  ·refine .cons ?_ oJ.2
   rw[<-oJ.1]
   by_cases h:id'=id
   ·subst h;simp
   ·rw[dM _ _ h];exact hid
theorem DS.append_nil{s:Operand}{news:List (List AV)}(hg:o.guard=none)(ho:o.op=.call {callee:=.builtin .append,args:= #[s,x],argTypes:= #[t,t]})(ht:jE P t e sz b)
 (hs:aT l s=some (.v (.slice none 0 0))) (hx:aT l x=some u) (hsrc:rO I sz u news) (hb:news.length*b<=140737488355328)
 (hk:∀id',K (.own id' 0 news.length sz) ((id',.row e sz news)::I)):DS P n ops H0 o l I K:=
 λay=>Does.append_nil hg ho ht (aG hs) (by rw[aG hx];exact hsrc.to ay) hb λid' hid=>⟨_,rfl,.cons hid ay,hk id'⟩
theorem DS.call{f:Nat}{cc:Operand}{args:Array Operand}{at_:Array TypeId}{bS us:List AV}{J:AV->Hp->Prop}(hg:o.guard=none)(ho:o.op=.call {callee:=.value cc,args:=args,argTypes:=at_})(hc:aT l cc=some (.gN f bS))(ha:gW l args.toList=some us)
 (h:aM H0 I->au P f (us++bS) (aC H0 I) J) (hk:∀u H',J u H'->∃aL,H'=aC H0 aL/\(aM H0 I->aM H0 aL)/\K u aL):DS P n ops H0 o l I K:=
 λay=>Does.call hg ho (aG hc) (by
  rw[jC ha]
  exact(h ay).mono λu H' hK=>by
   obtain⟨aL,e1,e2,e3⟩:=hk u H' hK
   exact⟨aL,e1,e2 ay,e3⟩)
theorem qP:∀(news I:List (Nat×Ob)),aC (aC H0 I) news=aC H0 (news++I)
 |[],_=>rfl
 |(i,ob)::r,I=>by show set _ _ _=set _ _ _;rw[qP r I];rfl
theorem aM.app{I:List (Nat×Ob)}(ay:aM H0 I):∀{news:List (Nat×Ob)},aM (aC H0 I) news->aM H0 (news++I)
 |_,.nil=>ay
 |_,.cons h1 h2=> .cons ((congrFun (qP (H0:=H0) _ I) _).symm.trans h1) (aM.app ay h2)
theorem DS.lq{f:Nat}{cc:Operand}{args:Array Operand}{at_:Array TypeId}{bS us:List AV}{R:AV->List (Nat×Ob)->Prop}(hg:o.guard=none)(ho:o.op=.call {callee:=.value cc,args:=args,argTypes:=at_})(hc:aT l cc=some (.gN f bS))(ha:gW l args.toList=some us)
 (h:aM H0 I->au P f (us++bS) (aC H0 I) (λu H'=>∃news,aM (aC H0 I) news/\H'=aC (aC H0 I) news/\R u news)) (hk:∀u news,R u news->K u (news++I)):DS P n ops H0 o l I K:=
 DS.call hg ho hc ha h (λu H' ⟨news,h1,h2,h3⟩=>⟨news++I,by rw[h2,qP],λay=>ay.app h1,hk u news h3⟩)
theorem DS.on{g:Nat×Bool}{dg:Nat}(hg:o.guard=some g)(hdg:(ops[g.1]?).bind (·.dst)=some dg)(hdn:dg<n)(hT:look l dg=some (.v (.bool g.2)))(h:DS P n ops H0 {o with guard:=none} l I K):DS P n ops H0 o l I K:=λay=>
 Does.PO (h ay) hg hdg hdn (by unfold fI;rw[hT];rfl)
end
theorem US.pick{Q:qH->Sl->Hp->Prop}{rest:List Oper}{d:Nat}{c:Operand}{bb:Bool}{r:AV}(hd:o.dst=some d)(hn:d<n)(hg:o.guard=none)(ho:o.op=.pick c x y)(hc:aT l c=some (.v (.bool bb)))(hr:(if bb then aT l x else aT l y)=some r)(hk:US P n ops Q H0 rest ((d,r)::l) I):US P n ops Q H0 (o::rest) l I:=
 US.qs hd hn (QS.pick hg ho hc hr) hk
theorem US.min2'{Q:qH->Sl->Hp->Prop}{rest:List Oper}{d:Nat}{at_:Array TypeId}{ki kj:IntKind}{a c r:Int}(hd:o.dst=some d)(hn:d<n)(hg:o.guard=none)(ho:o.op=.call {callee:=.builtin .min,args:= #[x,y],argTypes:=at_})(hx:aT l x=some (.v (.int ki a)))(hy:aT l y=some (.v (.int kj c)))(hr:(if c<a then c else a)=r)
 (hk:US P n ops Q H0 rest ((d,.v (.int ki r))::l) I):US P n ops Q H0 (o::rest) l I:=US.min2 hd hn hg ho hx hy (by rw[hr];exact hk)
end
end
end Go.fT
end
