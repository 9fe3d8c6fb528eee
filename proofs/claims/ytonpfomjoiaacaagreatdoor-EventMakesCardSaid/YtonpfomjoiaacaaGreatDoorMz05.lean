/- A part of the proof. -/
import Derived.Test.YtonpfomjoiaacaaGreatDoorMz04
import Derived.Lib.SliceRun
set_option maxRecDepth 100000
set_option maxHeartbeats 4000000
set_option linter.unusedSectionVars false
set_option linter.unusedVariables false
set_option linter.unusedSimpArgs false
section
namespace Go.fT
open Go Go.RowKit
section
variable [Rd]
section
variable {P:Program} {n:Nat} {T:Sl} {H:Hp} {ops:Array Oper} {o:Oper} {K:AV->Hp->Prop}
def dZ(op:BinOp)(k:IntKind)(a b:Int):Option Value:=
 match op with
 | .add=>some (.int k (k.wrap (a+b)))
 | .sub=>some (.int k (k.wrap (a-b)))
 | .mul=>some (.int k (k.wrap (a*b)))
 | .quo=>if b=0 then none else some (.int k (k.wrap (a.tdiv b)))
 | .rem=>if b=0 then none else some (.int k (a.tmod b))
 | .and=>some (.int k (k.wrap (BitVec.ofInt k.bits a&&&BitVec.ofInt k.bits b).toNat))
 | .or=>some (.int k (k.wrap (BitVec.ofInt k.bits a|||BitVec.ofInt k.bits b).toNat))
 | .xor=>some (.int k (k.wrap (BitVec.ofInt k.bits a^^^BitVec.ofInt k.bits b).toNat))
 | .eql=>some (.bool (a==b))
 | .neq=>some (.bool (a !=b))
 | .lss=>some (.bool (decide (a<b)))
 | .leq=>some (.bool (decide (a<=b)))
 | .gtr=>some (.bool (decide (a>b)))
 | .geq=>some (.bool (decide (a>=b)))
 |_=>none
theorem Vr{w:World}{op:BinOp}{t:TypeId}{k:IntKind}{a b:Int}{r:Value}(h:dZ op k a b=some r):(binOp op t (.int k a) (.int k b)).run P w=.ok r w:=by
 cases op<;>simp[dZ] at h<;>first
  |(subst h;simp[binOp,Op.intArith,Op.intBits,Op.intCmp];done)
  |(obtain⟨h1,h2⟩:=h;subst h2;simp[binOp,Op.intDiv,h1];done)
theorem iq{a:Act}{w:World}{op:BinOp}{t t2:TypeId}{x y:Operand}{r:Value}(ho:o.op=.binOp op t x y t2)(hgd:(eqGuard op t x y (a.eval x) (a.eval y)).run P w=.ok () w)(h:(binOp op t (a.eval x) (a.eval y)).run P w=.ok r w):(execOp a.eval o).run P w=.ok (.value r) w:=by
 unfold execOp
 rw[ho]
 simp only[Sem.run_bind,hgd,h,Result.andThen_ok,Sem.run_pure]
theorem Does.az{op:BinOp}{t t2:TypeId}{x y:Operand}{k:IntKind}{a b:Int}{r:Value}(hg:o.guard=none)(ho:o.op=.binOp op t x y t2)(hx:ev T x=.v (.int k a))(hy:ev T y=.v (.int k b))(h:dZ op k a b=some r)
 (hk:K (.v r) H):Does P n ops o T H K:=by
 refine Does.val _ hg (λac w ρ hh hr=>?_) hk
 have h3:=hr x
 have h4:=hr y
 rw[hx] at h3
 rw[hy] at h4
 refine⟨r,iq ho ?_ ?_,.v _⟩
 ·rw[aS h3,aS h4]
  cases op<;>simp[eqGuard]
 ·rw[aS h3,aS h4]
  exact Vr h
theorem Does.Vs{t t2:TypeId}{x y:Operand}{k k':IntKind}{a b:Int}(hg:o.guard=none)(ho:o.op=.binOp .shl t x y t2)(hx:ev T x=.v (.int k a))(hy:ev T y=.v (.int k' b))(hb:0<=b)
 (hk:K (.v (.int k (k.wrap (a*2^min b.toNat k.bits)))) H):Does P n ops o T H K:=by
 refine Does.val _ hg (λac w ρ hh hr=>?_) hk
 have h3:=hr x
 have h4:=hr y
 rw[hx] at h3
 rw[hy] at h4
 refine⟨_,iq ho ?_ ?_,.v _⟩
 ·rw[aS h3,aS h4];simp[eqGuard]
 ·rw[aS h3,aS h4]
  have:¬b<0:=by omega
  simp[binOp,Op.shift,this]
theorem Does.vL{t t2:TypeId}{x y:Operand}{k k':IntKind}{a b:Int}(hg:o.guard=none)(ho:o.op=.binOp .shr t x y t2)(hx:ev T x=.v (.int k a))(hy:ev T y=.v (.int k' b))(hb:0<=b)
 (hk:K (.v (.int k (a.fdiv (2^min b.toNat k.bits)))) H):Does P n ops o T H K:=by
 refine Does.val _ hg (λac w ρ hh hr=>?_) hk
 have h3:=hr x
 have h4:=hr y
 rw[hx] at h3
 rw[hy] at h4
 refine⟨_,iq ho ?_ ?_,.v _⟩
 ·rw[aS h3,aS h4];simp[eqGuard]
 ·rw[aS h3,aS h4]
  have:¬b<0:=by omega
  simp[binOp,Op.shift,this]
def eH(op:BinOp)(a b:ByteArray):Option Bool:=
 match op with
 | .eql=>some (a.toList==b.toList)
 | .neq=>some (!(a.toList==b.toList))
 | .lss=>some (Op.bytesLess a.toList b.toList)
 | .leq=>some (Op.bytesLess a.toList b.toList||(a.toList==b.toList))
 | .gtr=>some (!(Op.bytesLess a.toList b.toList||(a.toList==b.toList)))
 | .geq=>some (!Op.bytesLess a.toList b.toList)
 |_=>none
theorem Does.iG{op:BinOp}{t t2:TypeId}{x y:Operand}{a b:ByteArray}{r:Bool}(hg:o.guard=none)(ho:o.op=.binOp op t x y t2)(hx:ev T x=.v (.string a))(hy:ev T y=.v (.string b))(h:eH op a b=some r)
 (hk:K (.v (.bool r)) H):Does P n ops o T H K:=by
 refine Does.val _ hg (λac w ρ hh hr=>?_) hk
 have h3:=hr x
 have h4:=hr y
 rw[hx] at h3
 rw[hy] at h4
 refine⟨_,iq ho ?_ ?_,.v _⟩
 ·rw[aS h3,aS h4]
  cases op<;>simp[eqGuard]
 ·rw[aS h3,aS h4]
  cases op<;>first
   |(simp[eH] at h;done)
   |(have h':=Option.some.inj h;subst h';simp[binOp,Op.stringOp];done)
theorem Does.H5{t t2:TypeId}{x y:Operand}{a b:ByteArray}(hg:o.guard=none)(ho:o.op=.binOp .add t x y t2)(hx:ev T x=.v (.string a))(hy:ev T y=.v (.string b))(h:a.size+b.size<=9223372036854775807)
 (hk:K (.v (.string (a++b))) H):Does P n ops o T H K:=by
 refine Does.val _ hg (λac w ρ hh hr=>?_) hk
 have h3:=hr x
 have h4:=hr y
 rw[hx] at h3
 rw[hy] at h4
 refine⟨_,iq ho ?_ ?_,.v _⟩
 ·rw[aS h3,aS h4];simp[eqGuard]
 ·rw[aS h3,aS h4]
  have:¬(((a.size+b.size:Nat):Int)>IntKind.i64.max):=by
   have:IntKind.i64.max=9223372036854775807:=by decide
   rw[this];omega
  simp only[binOp,Op.stringOp]
  rw[if_neg this]
  rfl
theorem Does.H6{t t2:TypeId}{x y:Operand}{a b:Bool}(hg:o.guard=none)(ho:o.op=.binOp .eql t x y t2)(ht:P.underlying t=some .bool)(hx:ev T x=.v (.bool a))(hy:ev T y=.v (.bool b))
 (hk:K (.v (.bool (a==b))) H):Does P n ops o T H K:=by
 refine Does.val _ hg (λac w ρ hh hr=>?_) hk
 have h3:=hr x
 have h4:=hr y
 rw[hx] at h3
 rw[hy] at h4
 refine⟨_,iq ho ?_ ?_,.v _⟩
 ·rw[aS h3,aS h4];simp[eqGuard]
 ·rw[aS h3,aS h4];exact run_eql_bool w t a b ht
theorem KP{w:World}{t e:TypeId}(h:P.underlying t=some (.slice e))(A:Option Addr)(m c:Nat):(binOp .eql t (.slice A m c) (.slice none 0 0)).run P w=.ok (.bool A.isNone) w:=
 Lib.run_eql_slice_nil w t e A m c 0 0 h
theorem Does.Cj{t t2 e:TypeId}{x y:Operand}(hg:o.guard=none)(ho:o.op=.binOp .eql t x y t2)(ht:P.underlying t=some (.slice e))(hy:y=.const (.slice none 0 0)){m:Nat}
 (hx:∀(ρ:gz) (w:World) y,dU (bF ρ H) ρ w (ev T x) y->∃A c,y=.slice A m c/\(A=none->m=0)) (hk:∀b:Bool,(b=true->m=0)->K (.v (.bool b)) H):Does P n ops o T H K:=by
 intro a w ρ h1 h2 h3 h4 N Q hN
 rw[if_pos (by simp[Region.wanted,hg])]
 have hr:=gP h4
 obtain⟨A,c,jR,hA⟩:=hx ρ w _ (hr x)
 have hyy:a.eval y=.slice none 0 0:=by rw[hy];rfl
 unfold Oper.wp
 rw[iq ho (by rw[jR,hyy];simp[eqGuard]) (by rw[jR,hyy];exact KP ht A m c)]
 exact hN _ w ρ _ H h3 (Ext.refl _ _ _) (.v _) (hk _ (λh=>hA (by simpa using h)))
theorem Does.not{x:Operand}{t:TypeId}{b:Bool}(hg:o.guard=none)(ho:o.op=.unOp .not t x)(hx:ev T x=.v (.bool b))(hk:K (.v (.bool (!b))) H):Does P n ops o T H K:=by
 refine Does.val _ hg (λac w ρ hh hr=>?_) hk
 have h3:=hr x
 rw[hx] at h3
 refine⟨_,?_,.v _⟩
 unfold execOp
 rw[ho]
 simp only[aS h3,Op.unary,Sem.run_bind,Sem.run_pure,Result.andThen_ok]
theorem Does.neg{x:Operand}{t:TypeId}{k:IntKind}{a:Int}(hg:o.guard=none)(ho:o.op=.unOp .neg t x)(hx:ev T x=.v (.int k a))(hk:K (.v (.int k (k.wrap (0-a)))) H):Does P n ops o T H K:=by
 refine Does.val _ hg (λac w ρ hh hr=>?_) hk
 have h3:=hr x
 rw[hx] at h3
 refine⟨_,?_,.v _⟩
 unfold execOp
 rw[ho]
 simp only[aS h3,Op.unary,Op.intArith,Sem.run_bind,Sem.run_pure,Result.andThen_ok]
theorem Does.yJ{x:Operand}{s d:TypeId}{k k':IntKind}{a:Int}(hg:o.guard=none)(ho:o.op=.convert s d x)(hs:(P.underlying s).isSome=true)(hd:P.underlying d=some (.int k'))(hx:ev T x=.v (.int k a))(hk:K (.v (.int k' (k'.wrap a))) H):Does P n ops o T H K:=by
 refine Does.val _ hg (λac w ρ hh hr=>?_) hk
 have h3:=hr x
 rw[hx] at h3
 refine⟨_,?_,.v _⟩
 obtain⟨ds,hds⟩:=Option.isSome_iff_exists.mp hs
 unfold execOp
 rw[ho]
 simp only[aS h3,convert,Sem.run_bind,run_underlying hds,run_underlying hd,Conv.intToInt,Sem.run_pure,Result.andThen_ok]
theorem Does.min2{x y:Operand}{at_:Array TypeId}{k k':IntKind}{a b:Int}(hg:o.guard=none)(ho:o.op=.call {callee:=.builtin .min,args:= #[x,y],argTypes:=at_})(hx:ev T x=.v (.int k a))(hy:ev T y=.v (.int k' b))
 (hk:K (.v (.int k (if b<a then b else a))) H):Does P n ops o T H K:=by
 refine Does.val _ hg (λac w ρ hh hr=>?_) hk
 have h3:=hr x
 have h4:=hr y
 rw[hx] at h3
 rw[hy] at h4
 refine⟨_,?_,.v _⟩
 unfold execOp
 rw[ho]
 simp only[resolve,List.map_toArray,List.map_cons,List.map_nil,Sem.run_bind,Sem.run_pure,Result.andThen_ok,invoke,builtin,aS h3,aS h4,run_min_int2]
theorem Does.max2{x y:Operand}{at_:Array TypeId}{k k':IntKind}{a b:Int}(hg:o.guard=none)(ho:o.op=.call {callee:=.builtin .max,args:= #[x,y],argTypes:=at_})(hx:ev T x=.v (.int k a))(hy:ev T y=.v (.int k' b))
 (hk:K (.v (.int k (if b>a then b else a))) H):Does P n ops o T H K:=by
 refine Does.val _ hg (λac w ρ hh hr=>?_) hk
 have h3:=hr x
 have h4:=hr y
 rw[hx] at h3
 rw[hy] at h4
 refine⟨_,?_,.v _⟩
 unfold execOp
 rw[ho]
 simp only[resolve,List.map_toArray,List.map_cons,List.map_nil,Sem.run_bind,Sem.run_pure,Result.andThen_ok,invoke,builtin,aS h3,aS h4,run_max_int2]
theorem Does.pick{c x y:Operand}{b:Bool}(hg:o.guard=none)(ho:o.op=.pick c x y)(hc:ev T c=.v (.bool b))(hk:K (if b then ev T x else ev T y) H):Does P n ops o T H K:=by
 refine Does.val _ hg (λac w ρ hh hr=>?_) hk
 have h3:=hr c
 rw[hc] at h3
 refine⟨if b then ac.eval x else ac.eval y,?_,?_⟩
 ·unfold execOp
  rw[ho]
  simp only[aS h3,asBool,Sem.run_bind,Sem.run_pure,Result.andThen_ok]
 ·cases b
  ·exact hr y
  ·exact hr x
theorem Does.PO{g:Nat×Bool}(h:Does P n ops {o with guard:=none} T H K)(hg:o.guard=some g){d:Nat}(hd:(ops[g.1]?).bind (·.dst)=some d)(hdn:d<n)(hT:T d=.v (.bool g.2)):Does P n ops o T H K:=by
 intro a w ρ h1 h2 h3 h4 N Q hN
 have h5:=h4 d
 rw[hT] at h5
 have h6:=aS h5
 have hw:Region.wanted o (yielded ops a.tmps)=true:=by
  have:a.tmps[d]? =some (.bool g.2):=by
   rw[Array.getD_eq_getD_getElem?] at h6
   rw[Array.getElem?_eq_getElem (by omega)] at h6⊢
   simpa using h6
  simp[Region.wanted,hg,yielded,hd,this]
 rw[if_pos hw]
 have h7:=h a w ρ h1 h2 h3 h4 N Q hN
 rw[if_pos (by simp[Region.wanted])] at h7
 exact h7
def qb(l:List AV):List (Nat×List AV)->List AV
 |[]=>l
 |(off,us)::r=>qb (fH l off us) r
theorem CW(off:Nat):∀(vs:List Value) (i:Nat) (cells:Array Value),(vs.zipIdx i).foldl (λcs (c,j)=>cs.setIfInBounds (off+j) c) cells=(fH cells.toList (off+i) vs).toArray
 |[],i,cells=>by simp[fH]
 |v::r,i,cells=>by
  rw[List.zipIdx_cons,List.foldl_cons,CW off r (i+1)]
  simp[fH,Nat.add_assoc]
theorem yK{ok:Nat->Prop}{ρ:gz}{w:World}(place:Nat->Option (Nat×Nat)):∀(parts:List (Nat×Value)) (us:List AV) (gL:List Nat) (l:List AV) (cells:List Value),parts.length=us.length->gL.length=us.length->
 (∀(j:Nat) p u off,parts[j]? =some p->us[j]? =some u->gL[j]? =some off->dU ok ρ w u p.2/\(flat u).all aR=true/\place p.1=some (off,(flat u).length)/\off+(flat u).length<=l.length)->
 aX ok ρ w l cells->∃cells',Instr.fill place cells.toArray parts=some (List.toArray cells')/\aX ok ρ w (qb l (gL.zip (us.map flat))) cells'
 |[],us,gL,l,cells,h1,h2,_,hc=>by
  cases us with
  |nil=>cases gL with
   |nil=>exact⟨cells,rfl,hc⟩
   |cons _ _=>simp at h2
  |cons _ _=>simp at h1
 |p::ps,us,gL,l,cells,h1,h2,h,hc=>by
  cases us with
  |nil=>simp at h1
  |cons u us=>cases gL with
   |nil=>simp at h2
   |cons off gL=>
    obtain⟨a1,a2,a3,a4⟩:=h 0 p u off rfl rfl rfl
    have hf:=CR a1 a2
    have hs:p.2.cells.size=(flat u).length:=by rw[<-Array.length_toList,<-hf.1]
    have hn:=j5 hc hf off
    obtain⟨cells',e1,e2⟩:=yK place ps us gL (fH l off (flat u)) _ (by simpa using h1) (by simpa using h2) (λj p' u' off' b1 b2 b3=>by
     have:=h (j+1) p' u' off' (by simpa using b1) (by simpa using b2) (by simpa using b3)
     rw[gI];exact this) hn
    refine⟨cells',?_,e2⟩
    unfold Instr.fill
    simp only[a3]
    rw[if_neg (by rw[hs];simp;rw[<-hc.1];exact a4)]
    rw[<-e1]
    congr 1
    have e3:=CW off p.2.cells.toList 0 cells.toArray
    simp only[Nat.add_zero] at e3
    rw[<-e3]
    rw[<-Array.foldl_toList,Array.toList_zipIdx]
def ny(P:Program)(t:TypeId):Option (List Value×List (Nat×Nat)):=
 match P.info? t,P.underlying t with
 |some it,some (.struct fields)=>
  match it.zero,fields.toList.mapM (λf=>(P.info? f.type).map λi=>(f.offset,i.size)) with
  |some z,some places=>some (z.cells.toList,places)
  |_,_=>none
 |_,_=>none
theorem H7{a:Act}{w:World}{t:TypeId}{parts:Array (Nat×Operand)}{zs:List Value}{places:List (Nat×Nat)}{cells:List Value}(ho:o.op=.build t parts)(ht:ny P t=some (zs,places))
 (h:Instr.fill (places.toArray[·]?) zs.toArray (parts.toList.map λp=>(p.1,a.eval p.2))=some cells.toArray):(execOp a.eval o).run P w=.ok (.value (.agg cells.toArray)) w:=by
 have hb:P.built t (parts.map λ(i,x)=>(i,a.eval x)).toList=some cells.toArray:=by
  unfold ny at ht
  unfold Program.built
  split at ht
  ·rename_i it fields hi hu
   simp only[hi,hu]
   split at ht
   ·rename_i z pl hz hp
    cases ht
    simp only[hz,hp]
    rw[<-h]
    congr 1
    simp
   ·cases ht
  ·cases ht
 unfold execOp
 rw[ho]
 simp only[run_build w t _ _ hb,Sem.run_bind,Sem.run_pure,Result.andThen_ok]
theorem Does.build{t:TypeId}{parts:Array (Nat×Operand)}{zs:List Value}{places:List (Nat×Nat)}(gL:List Nat)(hg:o.guard=none)(ho:o.op=.build t parts)(ht:ny P t=some (zs,places))
 (hz:zs.all (·.oneCell')=true) (hol:gL.length=parts.toList.length)
 (hp:∀(j:Nat) p off,parts.toList[j]? =some p->gL[j]? =some off->(flat (ev T p.2)).all aR=true/\places[p.1]? =some (off,(flat (ev T p.2)).length)/\off+(flat (ev T p.2)).length<=zs.length)
 (hk:K (.agg (qb (zs.map .v) (gL.zip ((parts.toList.map λp=>ev T p.2).map flat)))) H):Does P n ops o T H K:=by
 refine Does.val _ hg (λa w ρ hh hr=>?_) hk
 obtain⟨cells',e1,e2⟩:=yK (ok:=bF ρ H) (ρ:=ρ) (w:=w) (places.toArray[·]?) (parts.toList.map λp=>(p.1,a.eval p.2)) (parts.toList.map λp=>ev T p.2) gL (zs.map .v) zs (by simp) (by simpa using hol) (λj p u off h1 h2 h3=>by
  rw[List.getElem?_map] at h1 h2
  cases hj:parts.toList[j]? with
  |none=>rw[hj] at h1;cases h1
  |some q=>
   rw[hj] at h1 h2
   cases h1;cases h2
   obtain⟨b1,b2,b3⟩:=hp j q off hj h3
   exact⟨hr q.2,b1,by rw[List.getElem?_toArray];exact b2,by simpa using b3⟩) (jG zs hz)
 exact⟨_,H7 ho ht e1,j4 e2⟩
theorem yL(sz:Nat):∀(us:List (List AV)) (pre SK:List AV) (k:Nat),pre.length=k*sz->(∀cs∈us,cs.length=sz)->SK.length=us.length*sz->
 qb (pre++SK) ((List.range' k us.length).map (·*sz)|>.zip us)=pre++us.flatten
 |[],pre,SK,k,_,_,hs=>by
  have:SK=[]:=List.eq_nil_of_length_eq_zero (by simpa using hs)
  subst this
  simp[qb]
 |u::us,pre,SK,k,hp,hu,hs=>by
  have Zq:=hu u (by simp)
  have e1:fH (pre++SK) (k*sz) u=(pre++u)++SK.drop sz:=by
   apply List.ext_getElem?
   intro j
   rw[oF]
   have hsl:SK.length=us.length*sz+sz:=by rw[hs,List.length_cons,Nat.succ_mul]
   by_cases h1:k*sz<=j/\j<k*sz+u.length/\j<(pre++SK).length
   ·rw[if_pos h1,List.append_assoc,List.getElem?_append_right (by omega),List.getElem?_append_left (by omega),hp]
   ·rw[if_neg h1]
    rw[List.length_append] at h1
    by_cases h2:j<k*sz
    ·rw[List.append_assoc,List.getElem?_append_left (by omega),List.getElem?_append_left (by omega)]
    ·rw[List.getElem?_append_right (by omega),List.getElem?_append_right (by rw[List.length_append];omega),List.getElem?_drop,List.length_append]
     congr 1
     omega
  rw[List.length_cons,List.range'_succ,List.map_cons,List.zip_cons_cons]
  show qb (fH (pre++SK) (k*sz) u) _=_
  rw[e1,yL sz us (pre++u) (SK.drop sz) (k+1) (by rw[List.length_append,hp,Zq,Nat.succ_mul]) (λcs hc=>hu cs (by simp[hc])) (by rw[List.length_drop,hs,List.length_cons,Nat.succ_mul];omega)]
  simp
theorem yM{a:Act}{w:World}{t e sz b:Nat}{len:Nat}{parts:Array (Nat×Operand)}{z:Value}{cells:List Value}(ho:o.op=.buildSlice t len parts)(ht:j6 P t=some (e,sz,b))(hz:(P.info? e).map (·.zero)=some (some z))(hl:len*sz<=2^24)(hc:len*sz≠0)
 (h:Instr.fill (λi=>some (i*sz,sz)) ((Array.range (len*sz)).map (λi=>z.cells[i % z.cells.size]!)) (parts.toList.map λp=>(p.1,a.eval p.2))=some cells.toArray):
 (execOp a.eval o).run P w=.ok (.value (.slice (some ⟨w.heap.size,0,none⟩) len len)) (w.alloc (.cells cells.toArray e)):=by
 obtain⟨hu,_⟩:=dR ht
 obtain⟨i,hi,hz⟩:=Option.map_eq_some_iff.1 hz
 have h0:(zeroValue e).run P w=.ok z w:=by simp[zeroValue,typeInfo,hi,hz,go_sem]
 have h':Instr.fill (λi=>some (i*sz,sz)) ((Array.range (len*sz)).map (λi=>z.cells[i % z.cells.size]!)) (parts.map λ(i,x)=>(i,a.eval x)).toList=some cells.toArray:=by
  rw[<-h];congr 1;simp
 have hnl:¬len*sz>2^24:=by omega
 unfold execOp
 rw[ho]
 simp only[Instr.buildSlice,Sem.run_bind,run_underlying hu,Result.andThen_ok,mO ht,hnl,if_false,hc,h0,Sem.run_pure,h']
 simp[newRow,go_sem]
theorem xg{a:Act}{w:World}{t e sz b:Nat}(ho:o.op=.buildSlice t 0 #[])(ht:j6 P t=some (e,sz,b)):
 (execOp a.eval o).run P w=.ok (.value (.slice (some ⟨w.heap.size,0,none⟩) 0 0)) (w.alloc (.cells #[] e)):=by
 obtain⟨hu,_⟩:=dR ht
 unfold execOp
 rw[ho]
 simp[Instr.buildSlice,run_underlying hu,mO ht,Instr.fill,newRow,go_sem]
theorem qN{a:Act}{w:World}{ρ:gz}{t e sz b:Nat}{len:Nat}{parts:Array (Nat×Operand)}(hr:∀x:Operand,dU (bF ρ H) ρ w (ev T x) (a.eval x))(ho:o.op=.buildSlice t len parts)(ht:jE P t e sz b)(hl:len*sz<=2^24)
 (hp:parts.toList.map (·.1)=List.range len) (hc:∀p∈parts.toList,(flat (ev T p.2)).all aR=true/\(flat (ev T p.2)).length=sz):
 ∃cells,(execOp a.eval o).run P w=.ok (.value (.slice (some ⟨w.heap.size,0,none⟩) len len)) (w.alloc (.cells (List.toArray cells) e))/\cells.length=len*sz/\aX (bF ρ H) ρ w (parts.toList.map λp=>flat (ev T p.2)).flatten cells:=by
 obtain⟨z,hz,hzs,hz1⟩:=ht.zero
 have hpl:parts.toList.length=len:=by have:=congrArg List.length hp;simpa using this
 by_cases h0:len=0
 ·subst h0
  have hpe:parts= #[]:=Array.toList_eq_nil_iff.1 (List.eq_nil_of_length_eq_zero hpl)
  subst hpe
  exact⟨[],xg ho ht.sl,by simp,gD⟩
 have hne:len*sz≠0:=by
  have:=ht.sz
  exact Nat.mul_ne_zero h0 (by omega)
 obtain⟨zs,ZP⟩:∃zs:List Value,((Array.range (len*sz)).map (λi=>z.cells[i % z.cells.size]!))=zs.toArray:=⟨_,(Array.toArray_toList).symm⟩
 have hzl:zs.length=len*sz:=by have:=congrArg Array.size ZP;simpa using this.symm
 have hzc:zs.all (·.oneCell')=true:=by
  rw[List.all_eq_true]
  intro y hy
  have hy2:y∈zs.toArray:=by simpa using hy
  rw[<-ZP] at hy2
  obtain⟨i,_,rfl⟩:=Array.mem_map.1 hy2
  have hlt:i % z.cells.size<z.cells.size:=Nat.mod_lt _ (by rw[hzs];exact ht.sz)
  rw[getElem!_pos z.cells _ hlt]
  exact List.all_eq_true.1 hz1 _ (by simp)
 obtain⟨cells',e1,e2⟩:=yK (ok:=bF ρ H) (ρ:=ρ) (w:=w) (λi=>some (i*sz,sz)) (parts.toList.map λp=>(p.1,a.eval p.2)) (parts.toList.map λp=>ev T p.2) ((List.range len).map (·*sz)) (zs.map .v) zs (by simp) (by simp[hpl]) (λj p u off h1 h2 h3=>by
  rw[List.getElem?_map] at h1 h2 h3
  cases hj:parts.toList[j]? with
  |none=>rw[hj] at h1;cases h1
  |some q=>
   rw[hj] at h1 h2
   cases h1;cases h2
   have hjl:j<len:=by rw[<-hpl];exact(List.getElem?_eq_some_iff.1 hj).1
   rw[List.getElem?_range hjl] at h3
   cases h3
   have hq:q.1=j:=by
    have:=congrArg (λl=>l[j]?) hp
    simp only[List.getElem?_map,hj,List.getElem?_range hjl,Option.map_some] at this
    exact Option.some.inj this
   obtain⟨b1,b2⟩:=hc q (List.mem_of_getElem? hj)
   refine⟨hr q.2,b1,by simp only[hq,b2],?_⟩
   rw[b2,List.length_map,hzl,<-Nat.succ_mul]
   exact Nat.mul_le_mul_right _ hjl) (jG zs hzc)
 have e3:=yL sz ((parts.toList.map λp=>ev T p.2).map flat) [] (zs.map .v) 0 (by simp) (λcs hcs=>by
  obtain⟨u,hu,rfl⟩:=List.mem_map.1 hcs
  obtain⟨p,hp',rfl⟩:=List.mem_map.1 hu
  exact(hc p hp').2) (by simp[hzl,hpl])
 have e4:((parts.toList.map λp=>ev T p.2).map flat).length=len:=by simp[hpl]
 rw[List.nil_append,List.nil_append,e4,<-List.range_eq_range'] at e3
 rw[e3,List.map_map] at e2
 refine⟨cells',yM ho ht.sl hz hl hne (by rw[ZP];exact e1),?_,e2⟩
 rw[<-e2.1,dQ sz _ (λcs hcs=>by
  obtain⟨p,hp',rfl⟩:=List.mem_map.1 hcs
  exact(hc p hp').2),List.length_map,hpl]
theorem Bo{w:World}{e sz len:Nat}{cells:List Value}(hl:cells.length=len*sz)(hm:len<=maxLen):(w.alloc (.cells cells.toArray e)).ownsRow 0 e sz (.slice (some ⟨w.heap.size,0,none⟩) len len) len cells:=by
 have:=World.ownsRow_lit (base:=0) (e:=e) (size:=sz) w cells.toArray len (Nat.zero_le _) hm (by simpa using hl)
 simpa using this
theorem Does.buildSlice{t e sz b:Nat}{len:Nat}{parts:Array (Nat×Operand)}(hg:o.guard=none)(ho:o.op=.buildSlice t len parts)(ht:jE P t e sz b)(hl:len*sz<=2^24)
 (hp:parts.toList.map (·.1)=List.range len) (hc:∀p∈parts.toList,(flat (ev T p.2)).all aR=true/\(flat (ev T p.2)).length=sz)
 (hk:∀id,H id=none->K (.own id 0 len sz) (set H id (some (.row e sz (parts.toList.map λp=>flat (ev T p.2)))))):Does P n ops o T H K:=by
 refine Does.yG hg λa w ρ h hr=>?_
 obtain⟨cells,hrun,hcl,hrep⟩:=qN hr ho ht hl hp hc
 have hpl:parts.toList.length=len:=by have:=congrArg List.length hp;simpa using this
 have hm:len<=maxLen:=by
  have:=Nat.le_mul_of_pos_right len ht.sz
  simp only[maxLen];omega
 refine⟨_,_,_,.row e sz (parts.toList.map λp=>flat (ev T p.2)),hrun,ik _ _,?_,λρ' H' e'=>⟨ht.sz,cells,by rw[List.length_map,hpl];exact Bo hcl hm,λcs hcs=>by
  obtain⟨p,hp',rfl⟩:=List.mem_map.1 hcs
  exact(hc p hp').2,e'.cells hrep⟩,λid hid=>⟨.own id 0 len sz,λok' ρ' h'=>?_,hk id hid⟩⟩
 ·intro k hk;cases hk;rw[size_alloc];simp
 ·have:=dU.own (ok:=ok') (w:=w.alloc (.cells cells.toArray e)) id 0 len sz w.heap.size len len h' (by omega) hm
  simpa using this
theorem Does.wN{t e sz b:Nat}{len:Nat}{parts:Array (Nat×Operand)}(hg:o.guard=none)(ho:o.op=.buildSlice t len parts)(ht:jE P t e sz b)(hl:len*sz<=2^24)
 (hp:parts.toList.map (·.1)=List.range len) (hc:∀p∈parts.toList,(flat (ev T p.2)).all aR=true/\(flat (ev T p.2)).length=sz)
 (hk:K (.sl (parts.toList.map λp=>flat (ev T p.2))) H):Does P n ops o T H K:=by
 intro a w ρ h1 h2 h3 h4 N Q hN
 rw[if_pos (by simp[Region.wanted,hg])]
 have hr:=gP h4
 obtain⟨cells,hrun,hcl,hrep⟩:=qN hr ho ht hl hp hc
 have hpl:parts.toList.length=len:=by have:=congrArg List.length hp;simpa using this
 have hm:len<=maxLen:=by
  have:=Nat.le_mul_of_pos_right len ht.sz
  simp only[maxLen];omega
 have hb:=ik w (.cells (List.toArray cells) e)
 have hE:Ext ρ H w ρ H (w.alloc (.cells (List.toArray cells) e)):=⟨hb.os,hb.tape,hb.output,hb.size,λk hk _=>hb.block k hk,λ_ h=> .inl h,λ_ _ h=>h⟩
 have hR:dN ρ H (w.alloc (.cells (List.toArray cells) e)):=by
  refine⟨λid ob hi=>?_,h3.apart,h3.room,λid v k a b=>Nat.lt_of_lt_of_le (h3.lt id v k a b) hb.size⟩
  obtain⟨v,e1,e2⟩:=h3.ob id ob hi
  exact⟨v,e1,e2.ext hE (λk hk=>hb.block k (h3.lt id v k e1 hk))⟩
 unfold Oper.wp
 rw[hrun]
 refine hN _ _ ρ _ H hR hE ?_ hk
 have Zr:=hE.cells hrep
 have hlen:∀cs∈(parts.toList.map λp=>flat (ev T p.2)),cs.length=sz:=λcs hcs=>by
  obtain⟨p,hp',rfl⟩:=List.mem_map.1 hcs
  exact(hc p hp').2
 have wI:(parts.toList.map λp=>flat (ev T p.2)).length=len:=by rw[List.length_map,hpl]
 have hnew:bF ρ H w.heap.size:=by
  rintro⟨id,ob,v,_,b,c⟩
  have:=h3.lt id v _ b c
  omega
 have hsl:=dU.sl (ok:=bF ρ H) (ρ:=ρ) (w:=w.alloc (.cells (List.toArray cells) e)) (parts.toList.map λp=>flat (ev T p.2)) ⟨w.heap.size,0,none⟩ len sz (λi j=>cells.getD (i*sz+j) default) (by omega) hm (λ_=>⟨hnew,by rw[size_alloc];simp⟩) hlen (λi cs j hi hj=>by
  have hj':j<sz:=by rw[<-hlen cs (List.mem_of_getElem? hi)];exact hj
  have hg:=gJ sz ht.sz _ hlen i cs j hi hj'
  rw[List.getElem?_eq_getElem hj] at hg
  obtain⟨y,hy,hy2,hy3⟩:=kZ Zr hg
  have e1:cells.getD (i*sz+j) default=y:=by rw[List.getD_eq_getElem?_getD,hy];rfl
  rw[add_plain,e1]
  refine⟨?_,hy3⟩
  simp only[World.cell?,heap_alloc_new]
  simpa using hy) (λi cs j u hi hj=>by
  have hj':j<sz:=by rw[<-hlen cs (List.mem_of_getElem? hi)];exact(List.getElem?_eq_some_iff.1 hj).1
  have hg:=gJ sz ht.sz _ hlen i cs j hi hj'
  rw[hj] at hg
  obtain⟨y,hy,hy2,hy3⟩:=kZ Zr hg
  have e1:cells.getD (i*sz+j) default=y:=by rw[List.getD_eq_getElem?_getD,hy];rfl
  rw[e1];exact hy2)
 rw[wI] at hsl
 exact hsl
def bL(H:Hp)(u:AV)(H':Hp)(u':AV):Prop:=∀ρ w x,dN ρ H w->dU (bF ρ H) ρ w u x->dU (bF ρ H') ρ w u' x
theorem bL.drop{H':Hp}(hs:Sub H' H)(u:AV):bL H u H' u:=λρ w _ _ hr=>(Ext.drop (ρ:=ρ) hs w).rep hr
theorem bL.any(u:AV)(H':Hp):bL H u H' .any:=λ_ _ _ _ _=> .any _
theorem bL.nil(H':Hp):bL H (.v (.slice none 0 0)) H' (.sl []):=λ_ _ _ _ hr=>by rw[aS hr];exact .nil
theorem bL.agg{H':Hp}{l l':List AV}(hl:l'.length=l.length)(h:∀(j:Nat) u u',l[j]? =some u->l'[j]? =some u'->bL H u H' u'):bL H (.agg l) H' (.agg l'):=by
 intro ρ w x hh hr
 cases hr with
 |agg _ vs hl2 hr2=>exact .agg l' vs (by omega) (λj u' y h1 h2=>by
   have hj:j<l.length:=by rw[<-hl];exact(List.getElem?_eq_some_iff.1 h1).1
   exact h j _ u' (List.getElem?_eq_getElem hj) h1 ρ w y hh (hr2 j _ y (List.getElem?_eq_getElem hj) h2))
theorem bL.own{H':Hp}{id off len e sz:Nat}{rows rows':List (List AV)}(hs:Sub H' H)(h:H id=some (.row e sz rows))(h':H' id=none)(hle:off+len<=rows.length)
 (hl:rows'.length=rows.length) (hr:∀(i:Nat) cs cs',rows[i]? =some cs->rows'[i]? =some cs'->cs'.length=cs.length/\∀(j:Nat) u u',cs[j]? =some u->cs'[j]? =some u'->bL H u H' u'):
 bL H (.own id off len sz) H' (.sl ((rows'.drop off).take len)):=by
 intro ρ w x hh hx
 obtain⟨v,hv,hz,inner,ho,hcl,hc⟩:=hh.ob _ _ h
 have hlen:((rows'.drop off).take len).length=len:=by simp;omega
 have empty:len=0->(rows'.drop off).take len=[]:=λh0=>by rw[h0];simp
 cases hx with
 |lW=>rw[empty U];exact .nil
 |nP _ _ _ g m c o' c' hv' h0 hm=>
  rw[empty U]
  exact .sl [] _ c' 0 (λ_ _=>default) (Nat.zero_le _) hm (λhn=>absurd U hn) (by simp) (by simp) (by simp)
 |own _ _ _ _ g m cap hv' Ac hmax=>
  rw[hv] at hv'
  cases hv'
  rcases ho.2 with ⟨h4,_⟩|⟨g',cap',cur,h4,_,hg,h5,h6,h7,h8⟩
  ·cases h4
  ·cases h4
   have hok:bF ρ H' g:=by
    rintro⟨jQ,ob2,v2,a1,a2,a3⟩
    have:=hh.apart jQ id ob2 _ v2 _ g (hs _ _ a1) h a2 hv a3 U
    subst this
    rw[h'] at a1
    cases a1
   have hget:∀(i:Nat) cs' j u',((rows'.drop off).take len)[i]? =some cs'->cs'[j]? =some u'->∃y,cur[(off+i)*sz+j]? =some y/\y.oneCell'=true/\dU (bF ρ H') ρ w u' y:=by
    intro i cs' j u' h1 h2
    rw[List.getElem?_take] at h1
    split at h1
    ·rw[List.getElem?_drop] at h1
     have hi:off+i<rows.length:=by rw[<-hl];exact(List.getElem?_eq_some_iff.1 h1).1
     have e1:=List.getElem?_eq_getElem hi
     obtain⟨e2,e3⟩:=hr _ _ _ e1 h1
     have hj:j<rows[off+i].length:=by rw[<-e2];exact(List.getElem?_eq_some_iff.1 h2).1
     have hjs:j<sz:=by rw[<-hcl _ (List.mem_of_getElem? e1)];exact hj
     have e4:=gJ sz hz rows hcl _ _ j e1 hjs
     rw[List.getElem?_eq_getElem hj] at e4
     obtain⟨y,f1,f2,f3⟩:=kZ hc e4
     refine⟨y,?_,f3,e3 j _ u' (List.getElem?_eq_getElem hj) h2 ρ w y hh f2⟩
     rw[<-h8,List.getElem?_take] at f1
     split at f1
     ·simpa using f1
     ·cases f1
    ·cases h1
   have hsz':∀cs∈(rows'.drop off).take len,cs.length=sz:=by
    intro cs hcs
    obtain⟨i,hi⟩:=List.getElem?_of_mem (List.mem_of_mem_drop (List.mem_of_mem_take hcs))
    have hi2:i<rows.length:=by rw[<-hl];exact(List.getElem?_eq_some_iff.1 hi).1
    rw[(hr i _ _ (List.getElem?_eq_getElem hi2) hi).1]
    exact hcl _ (List.getElem_mem hi2)
   have hgl:g<w.heap.size:=(Array.getElem?_eq_some_iff.1 hg).1
   have:=dU.sl (ok:=bF ρ H') (ρ:=ρ) (w:=w) ((rows'.drop off).take len) ⟨g,off*sz,none⟩ (cap-off) sz (λi j=>cur.getD ((off+i)*sz+j) default) (by omega) (by omega) (λ_=>⟨hok,hgl⟩) hsz' (λi cs j hi hj=>by
    obtain⟨y,f1,f2,_⟩:=hget i cs j _ hi (List.getElem?_eq_getElem hj)
    have e1:cur.getD ((off+i)*sz+j) default=y:=by rw[Array.getD_eq_getD_getElem?,f1];rfl
    rw[add_plain,e1]
    refine⟨?_,f2⟩
    have e2:off*sz+(i*sz+j)=(off+i)*sz+j:=by rw[Nat.add_mul];omega
    rw[e2]
    simp[World.cell?,hg,f1]) (λi cs j u hi hj=>by
    obtain⟨y,f1,_,f3⟩:=hget i cs j u hi hj
    have e1:cur.getD ((off+i)*sz+j) default=y:=by rw[Array.getD_eq_getD_getElem?,f1];rfl
    rw[e1];exact f3)
   rw[hlen] at this
   exact this
theorem uo.turn{Q:qH->Sl->Hp->Prop}{rest:List Oper}{T':Sl}{H':Hp}(hs:Sub H' H)(hT:∀t,bL H (T t) H' (T' t))(h:uo P n ops Q rest T' H'):uo P n ops Q rest T H:=by
 intro E a w hi
 refine h E a w ⟨hi.size,hi.defers,?_⟩
 obtain⟨ρ,h1,h2,h3⟩:=hi.rel
 exact⟨ρ,h1.drop hs,h2.trans (Ext.drop hs w),λt=>hT t ρ w _ h1 (h3 t)⟩
theorem AW.turn{Q:qH->Sl->Hp->Prop}{c:Code}{T':Sl}{H':Hp}(hs:Sub H' H)(hT:∀t,bL H (T t) H' (T' t))(h:AW P n c Q T' H'):AW P n c Q T H:=by
 intro E a w hi
 refine h E a w ⟨hi.size,hi.defers,?_⟩
 obtain⟨ρ,h1,h2,h3⟩:=hi.rel
 exact⟨ρ,h1.drop hs,h2.trans (Ext.drop hs w),λt=>hT t ρ w _ h1 (h3 t)⟩
theorem au.turn{f:FuncId}{us:List AV}{K K':AV->Hp->Prop}(h:au P f us H K)(hk:∀u H1,K u H1->∃u' H2,Sub H2 H1/\bL H1 u H2 u'/\K' u' H2):au P f us H K':=
 ⟨h.1,λρ w vals h1 h2=>(h.2 ρ w vals h1 h2).mono λ_ _ ⟨x,ρ',u,H',a,b,c,d,e⟩=>by
   obtain⟨u',H2,e1,e2,e3⟩:=hk u H' e
   exact⟨x,ρ',u',H2,a,b.drop e1,c.trans (Ext.drop e1 _),e2 ρ' _ x b d,e3⟩⟩
theorem au.args{f:FuncId}{us lT:List AV}{H':Hp}(hs:Sub H' H)(hl:lT.length=us.length)(hu:∀(j:Nat) u u',us[j]? =some u->lT[j]? =some u'->bL H u H' u')(h:au P f lT H' K):au P f us H K:=
 ⟨h.1,λρ w vals h1 h2=>(h.2 ρ w vals (h1.drop hs) ⟨by rw[hl];exact h2.1,λj u' x a b=>by
   have hj:j<us.length:=by rw[<-hl];exact(List.getElem?_eq_some_iff.1 a).1
   exact hu j _ u' (List.getElem?_eq_getElem hj) a ρ w x h1 (h2.2 j _ x (List.getElem?_eq_getElem hj) b)⟩).mono λ_ _ ⟨x,ρ',u,H'',a,b,c,d,e⟩=>⟨x,ρ',u,H'',a,b,(Ext.drop hs w).trans c,d,e⟩⟩
end
end
end Go.fT
end
