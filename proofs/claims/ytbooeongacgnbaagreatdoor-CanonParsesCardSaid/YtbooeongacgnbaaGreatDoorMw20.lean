/- A part of the proof. -/
import Derived.Test.YtbooeongacgnbaaGreatDoorMw19
import Derived.Stop.IfaceNil
import Derived.Stop.Asserts
import Derived.LaidEql
import Derived.Scope
import Derived.Test.YtbooeongacgnbaaGreatDoorMw16
import Derived.Lib.AtoiErrMem
set_option maxRecDepth 100000
set_option maxHeartbeats 4000000
set_option linter.unusedSectionVars false
set_option linter.unusedVariables false
set_option linter.unusedSimpArgs false
section
namespace Go.gW
open Go Go.RowKit
section
variable [Rd]
section
variable {P:Program} {n:Nat} {ops:Array Oper} {o:Oper} {T:Sl} {H:Hp} {K:AV->Hp->Prop}
theorem Does.MC{t:TypeId}{x:Operand}(hg:o.guard=none)(ho:o.op=.makeInterface t x)(hc:P.concrete t=true)(hk:K (.zk t (ev T x)) H):Does P n ops o T H K:=by
 refine Does.val _ hg (λa w ρ hh hr=>⟨.iface t (a.eval x),?_,.zk _ _ _ (hr x)⟩) hk
 unfold execOp
 rw[ho]
 simp[run_makeInterface (P:=P) w t (a.eval x) hc]
def yR(P:Program)(t:TypeId):Bool:=match P.underlying t with
 |some (.interface _)=>false
 |some _=>true
 |none=>false
theorem JL{t s:TypeId}(hi:yR P t=true)(v:Value)(w:World):(Instr.typeAssert (.iface t v) s t true).run P w=.ok (.tuple #[v,.bool true]) w:=by
 unfold yR at hi
 cases hu:P.underlying t with
 |none=>rw[hu] at hi;cases hi
 |some d=>
  rw[hu] at hi
  cases d<;>first|(cases hi;done)|simp[Instr.typeAssert,run_underlying hu]
theorem Ha{t s:TypeId}{z:Value}(hi:yR P t=true)(hz:(P.info? t).map (·.zero)=some (some z))(w:World):(Instr.typeAssert .nilIface s t true).run P w=.ok (.tuple #[z,.bool false]) w:=by
 obtain⟨i,h1,h2⟩:=Option.map_eq_some_iff.1 hz
 unfold yR at hi
 cases hu:P.underlying t with
 |none=>rw[hu] at hi;cases hi
 |some d=>
  rw[hu] at hi
  cases d<;>first|(cases hi;done)|simp[Instr.typeAssert,run_underlying hu,zeroValue,typeInfo,h1,h2]
theorem EX{ok:Nat->Prop}{ρ:fK}{w:World}{u:AV}{x:Value}{b:Bool}(h:dL ok ρ w u x):dL ok ρ w (.dH [u,.v (.bool b)]) (.tuple #[x,.bool b]):=by
 refine .dH _ [x,.bool b] U (λj u' x' h1 h2=>?_)
 match j with
 |0=>cases h1;cases h2;exact h
 |1=>cases h1;cases h2;exact .v _
 |j+2=>simp at h1
theorem He{ok:Nat->Prop}{ρ:fK}{w:World}{z:Value}{u:AV}(h:u=.v z\/∃vs,z=.agg (List.toArray vs)/\u=.agg (vs.map .v)):dL ok ρ w u z:=by
 rcases h with rfl|⟨vs,rfl,rfl⟩
 ·exact .v _
 ·refine .agg _ vs (by simp) λj u x h1 h2=>?_
  rw[List.getElem?_map,h2] at h1
  cases h1
  exact .v _
theorem Does.Xn{t s:TypeId}{x:Operand}{u:AV}(hg:o.guard=none)(ho:o.op=.typeAssert x s t true)(hi:yR P t=true)(hx:ev T x=.zk t u)(hk:K (.dH [u,.v (.bool true)]) H):Does P n ops o T H K:=by
 refine Does.val _ hg (λa w ρ hh hr=>?_) hk
 have h3:=hr x
 rw[hx] at h3
 generalize hv:a.eval x=y at h3
 cases h3 with
 |zk _ _ v h=>
  refine⟨_,?_,EX h⟩
  unfold execOp
  rw[ho]
  simp[hv,JL (P:=P) (s:=s) hi v w]
theorem Does.U0{t s:TypeId}{x:Operand}{z:Value}{zu:AV}(hg:o.guard=none)(ho:o.op=.typeAssert x s t true)(hi:yR P t=true)(hz:(P.info? t).map (·.zero)=some (some z))(hzu:zu=.v z\/∃vs,z=.agg (List.toArray vs)/\zu=.agg (vs.map .v))(hx:ev T x=.v .nilIface)(hk:K (.dH [zu,.v (.bool false)]) H):Does P n ops o T H K:=by
 refine Does.val _ hg (λa w ρ hh hr=>?_) hk
 have h3:=hr x
 rw[hx] at h3
 refine⟨_,?_,EX (He hzu)⟩
 unfold execOp
 rw[ho]
 simp[aP h3,Ha (P:=P) (s:=s) hi hz w]
theorem Does.Xo{t t2:TypeId}{x y:Operand}(b:Bool)(hg:o.guard=none)(ho:o.op=.binOp .eql t x (.const .nilIface) t2)(ht:P.isIface t=true)(hx:(b=true/\ev T x=.v .nilIface)\/(b=false/\∃s u,ev T x=.zk s u))(hk:K (.v (.bool b)) H):Does P n ops o T H K:=by
 refine Does.val _ hg (λa w ρ hh hr=>?_) hk
 have h3:=hr x
 rcases hx with ⟨rfl,hx⟩|⟨rfl,s,u,hx⟩
 ·rw[hx] at h3
  refine⟨_,dX ho ?_ ?_,.v _⟩
  ·rw[aP h3];simp[eqGuard,Act.eval]
  ·rw[aP h3];exact run_eql_nil_nil_at (P:=P) w t ht
 ·rw[hx] at h3
  generalize hv:a.eval x=v at h3
  cases h3 with
  |zk _ _ v h=>
   refine⟨_,dX ho ?_ ?_,.v _⟩
   ·rw[hv];simp[eqGuard,Act.eval]
   ·rw[hv];exact run_eql_iface_nil (P:=P) w t ht s v
theorem Does.Xp{t t2:TypeId}{x y:Operand}(b:Bool)(hg:o.guard=none)(ho:o.op=.binOp .neq t x (.const .nilIface) t2)(ht:P.isIface t=true)(hx:(b=false/\ev T x=.v .nilIface)\/(b=true/\∃s u,ev T x=.zk s u))(hk:K (.v (.bool b)) H):Does P n ops o T H K:=by
 refine Does.val _ hg (λa w ρ hh hr=>?_) hk
 have h3:=hr x
 rcases hx with ⟨rfl,hx⟩|⟨rfl,s,u,hx⟩
 ·rw[hx] at h3
  refine⟨_,dX ho ?_ ?_,.v _⟩
  ·rw[aP h3];simp[eqGuard,Act.eval]
  ·rw[aP h3];exact run_neq_nil_nil_at (P:=P) w t ht
 ·rw[hx] at h3
  generalize hv:a.eval x=v at h3
  cases h3 with
  |zk _ _ v h=>
   refine⟨_,dX ho ?_ ?_,.v _⟩
   ·rw[hv];simp[eqGuard,Act.eval]
   ·rw[hv];exact run_neq_iface_nil (P:=P) w t ht s v
end
section
theorem jN{P:Program}{b:Frame}{a:Act}{k:List Item}{cs:List Frame}{w:World}{c:Code}:step P (lone (b.atR a (.code (.scope c)::k)) cs w)=.next (lone (b.atR a (.code c::.inScope c::k)) cs w):=
 step_lone_go (by simp[stepG,stepG.exec,Frame.atR])
theorem BV{P:Program}{b:Frame}{a:Act}{k:List Item}{cs:List Frame}{w:World}{c:Code}:step P (lone (b.atR a (.inScope c::k)) cs w)=.next (lone (b.atR a k) cs w):=
 step_lone_go (by simp[stepG,stepG.exec,Frame.atR])
theorem sW{ah:Fence}{m:Nat}{P:Program}{Q:Exit->Act->World->Prop}{a:Act}{w:World}{c:Code}(h:c.wpIn ah m P (Exit.noGoto Q) a w):(Code.scope c).wpIn ah m P Q a w:=by
 intro b k cs hro hb hr
 have h0:(lone (b.atR a (.code (.scope c)::k)) cs w).fenced P ah:=fenced_calm hb hr U
 obtain⟨e,a₁,w₁,hq,harr⟩:=h b (.inScope c::k) cs hro hb hr
 cases e with
 |normal=>exact⟨.normal,a₁,w₁,hq,.head h0 jN (StepsIn.trans harr (.one (fenced_calm hb hr U) BV))⟩
 |exit id'=>
  have hx:exitTo id' (.inScope c::k)=exitTo id' k:=by simp[exitTo]
  exact⟨.exit id',a₁,w₁,hq,λk' hk=> .head h0 jN (harr.1 k' (by rw[hx];exact hk)),
   λhr' hk=>let ⟨k₁,h1,h2⟩:=harr.2 hr' (by rw[hx];exact hk);⟨k₁,h1,.head h0 jN h2⟩⟩
 |goto l=>exact hq.elim
 |ret=>exact⟨_,a₁,w₁,hq,.of_steps (.one h0 jN) harr⟩
 |panic ch=>exact⟨_,a₁,w₁,hq,.of_steps (.one h0 jN) harr⟩
 |outgrown=>exact⟨_,a₁,w₁,hq,.of_steps (.one h0 jN) harr⟩
def JM(Q:oo->Sl->Hp->Prop):oo->Sl->Hp->Prop
 | .goto _,_,_=>False
 |e,T,H=>Q e T H
variable {P:Program} {n:Nat} {Q:oo->Sl->Hp->Prop} {T:Sl} {H H0:Hp} {l:List (Nat×AV)} {M:List (Nat×Ob)} {c:Code}
theorem AW.scope(h:AW P n c (JM Q) T H):AW P n (.scope c) Q T H:=by
 intro E a w hi
 refine sW<|wpIn_mono (h E a w hi)<|?_
 intro e a' w' hh
 cases e with
 |normal=>exact hh
 |exit id=>exact hh
 |goto l=>obtain⟨_,_,_,hq⟩:=hh;exact hq
 |ret=>exact hh
 |panic ch=>exact hh.elim
 |outgrown=>exact hh.elim
theorem UW.scope(h:UW P n (JM Q) H0 c l M):UW P n Q H0 (.scope c) l M:=λhd=>AW.scope (h hd)
theorem UQ.Oq(h:UQ Q H0 .ret l M):UQ (JM Q) H0 .ret l M:=h
end
section
variable {P:Program} {n:Nat} {ops:Array Oper} {o:Oper} {T:Sl} {H:Hp} {K:AV->Hp->Prop}
theorem EY{a:Act}{w:World}{f:FuncId}{c:Operand}{args:Array Operand}{at_:Array TypeId}{first:Array Value}(ho:o.op=.call {callee:=.value c,args:=args,argTypes:=at_})(hc:a.eval c=.func (.func f) first #[])(hb:xK P f):
 (execOp a.eval o).run P w=.ok (.enter f (first++args.map a.eval)) w:=by
 obtain⟨fn,hf,hn,hbody⟩:=hb
 unfold execOp
 rw[ho]
 generalize a.eval=ρ' at hc⊢
 have hn':¬fn.name= "runtime.NumGoroutine" :=by simpa using hn
 have hb':¬fn.body=none:=by intro h;rw[h] at hbody;simp at hbody
 simp[resolve,Deferred.ofValue,hc,invoke,callFunc,go_sem,hf,hn',hb']
theorem Does.Xq{f:FuncId}{c:Operand}{args:Array Operand}{at_:Array TypeId}{fs:List AV}(hg:o.guard=none)(ho:o.op=.call {callee:=.value c,args:=args,argTypes:=at_})(hc:ev T c=.bnd f fs)
 (h:F P f (fs++args.toList.map (ev T)) H K):Does P n ops o T H K:=by
 intro a w ρ h1 h2 h3 h4 N Q hN
 rw[if_pos (by simp[Region.wanted,hg])]
 have hr:=iA h4
 have h5:=hr c
 rw[hc] at h5
 generalize hv:a.eval c=y at h5
 cases h5 with
 |bnd _ _ vs hl hvs=>
 unfold Oper.wp
 rw[EY ho hv h.1,Oper.upon_enter]
 have h6:=h.2 ρ w (vs++args.toList.map a.eval) h3 ⟨by simp[hl],λj u x hu hx=>by
  by_cases hj:j<fs.length
  ·rw[List.getElem?_append_left hj] at hu
   rw[List.getElem?_append_left (by omega)] at hx
   exact hvs _ u x hu hx
  ·rw[List.getElem?_append_right (by omega),List.getElem?_map] at hu
   rw[List.getElem?_append_right (by omega),List.getElem?_map,<-hl] at hx
   cases h7:args.toList[j-fs.length]? with
   |none=>rw[h7] at hu;cases hu
   |some q=>rw[h7] at hu hx;cases hu;cases hx;exact hr _⟩
 have e1:(vs++args.toList.map a.eval).toArray=vs.toArray++args.map a.eval:=by
  apply Array.ext'
  simp
 rw[e1] at h6
 refine h6.mono<|?_
 rintro e w' ⟨x,ρ',u,H',rfl,a1,a2,a3,a4⟩
 exact hN x w' ρ' u H' a1 a2 a3 a4
theorem Does.ME{f:FuncId}{fs:Array Operand}(hg:o.guard=none)(ho:o.op=.makeFunc (.func f) fs #[])(hk:K (.bnd f (fs.toList.map (ev T))) H):Does P n ops o T H K:=by
 refine Does.val _ hg (λa w ρ hh hr=>⟨.func (.func f) (fs.toList.map a.eval).toArray #[],?_,?_⟩) hk
 ·unfold execOp
  rw[ho]
  simp[Instr.makeFunc,go_sem]
  apply Array.ext'
  simp
 ·refine .bnd f _ _ (by simp) λj u x h1 h2=>?_
  rw[List.getElem?_map] at h1 h2
  cases hj:fs.toList[j]? with
  |none=>rw[hj] at h1;cases h1
  |some c=>
   rw[hj] at h1 h2
   cases h1;cases h2
   exact hr c
end
section
variable {P:Program} {n:Nat} {Q:oo->Sl->Hp->Prop} {H0:Hp} {l:List (Nat×AV)} {M:List (Nat×Ob)} {c:Code} {id e:Nat} {cells:List AV}
theorem JN{ok ok':Nat->Prop}{ρ:fK}{w:World}{WE off len sz:Nat}{x:Value}(h:dL ok ρ w (.own WE off len sz) x):dL ok' ρ w (.own WE off len sz) x:=by
 cases h with
 |lQ _ _ h=>exact .lQ _ _ h
 |own _ _ _ _ g n cap h hle hmax=>exact .own _ _ _ _ g n cap h hle hmax
 |ny _ _ _ g n cap o' c' h h0 hm=>exact .ny _ _ _ g n cap o' c' h h0 hm
theorem UW.o6(k m kr:Nat){WE off len e2 sz:Nat}{rows rws:List (List AV)}(h3:M[kr]? =some (WE,.row e2 sz rows))(h2:(M.eraseIdx kr)[k]? =some (id,.box e cells))(hm:cells[m]? =some (.own WE off len sz))(hle:off+len<=rows.length){cs':List AV}(hr:(rows.drop off).take len=rws)(hu:jl (cells.set m (.sl rws))=cs')
 (hk:UW P n Q H0 c l ((M.eraseIdx kr).set k (id,.box e cs'))):UW P n Q H0 c l M:=by
 subst hr hu
 intro hd E a w hi
 obtain⟨e1,hd1⟩:=hd.kill h3
 have hs:Sub (aB H0 (M.eraseIdx kr)) (aB H0 M):=gB hd hd1 (λp hp=>List.mem_of_mem_eraseIdx hp)
 have hnone:aB H0 (M.eraseIdx kr) WE=none:=by rw[<-e1];simp[set]
 obtain⟨ρ,h1,h2',h4⟩:=hi.rel
 obtain⟨hok,hrr⟩:=dG.Ja (cells':=jl (cells.set m (.sl ((rows.drop off).take len)))) hd1 h2 (h1.drop hs) (by rw[oV];simp) (λj u u' x hu hu' hrep=>by
  rw[oV,List.getElem?_map] at hu'
  by_cases hj:j=m
  ·subst hj
   rw[hm] at hu;cases hu
   rw[List.getElem?_set_self (List.getElem?_eq_some_iff.1 hm).1] at hu'
   cases hu'
   exact dw.own hs (hd.at_ h3) hnone hle U (λi cs cs' g1 g2=>by rw[g1] at g2;cases g2;exact⟨rfl,λj u u' g3 g4=>by rw[g3] at g4;cases g4;exact dw.drop hs u⟩) ρ w x h1 (JN hrep)
  ·rw[List.getElem?_set_ne (λh=>hj h.symm),hu] at hu'
   cases hu'
   exact xV hrep)
 have oz:=h2'.trans (Ext.drop hs w)
 refine hk (hd1.kg _ h2).2 E a w ⟨hi.size,hi.defers,ρ,hrr,⟨oz.os,oz.tape,oz.output,oz.size,oz.block,λk' ho=>oz.own k' ?_,oz.F4⟩,λt=>?_⟩
 ·have:¬bK ρ (aB H0 ((M.eraseIdx kr).set k (id,.box e (jl (cells.set m (.sl ((rows.drop off).take len))))))) k':=λh=>h ho
  rw[<-hok] at this
  exact Classical.not_not.1 this
 ·rw[<-hok]
  exact(Ext.drop hs w).rep (h4 t)
end
section
variable {P:Program} {n:Nat} {ops:Array Oper} {H0:Hp} {l:List (Nat×AV)} {M:List (Nat×Ob)} {dst:Option Nat} {ty:TypeId} {ps:String} {af:Array Edge} {x:Operand} {u zu:AV} {t t2 s:Nat} {z:Value}
theorem Z.mki(hx:bA l x=some u)(hc:P.concrete t=true:=by kernel_rfl):QS P n ops H0 ⟨dst,.makeInterface t x,ty,ps,af,none⟩ l M (.zk t u):=λ_=>Does.MC U U hc ⟨by rw[aJ hx],rfl⟩
theorem Z.tai(hx:bA l x=some (.zk t u))(hi:yR P t=true:=by kernel_rfl):QS P n ops H0 ⟨dst,.typeAssert x s t true,ty,ps,af,none⟩ l M (.dH [u,.v (.bool true)]):=λ_=>Does.Xn U U hi (aJ hx) ⟨rfl,rfl⟩
theorem Z.tan(hx:bA l x=some (.v .nilIface))(hz:(P.info? t).map (·.zero)=some (some z))(hzu:zu=.v z\/∃vs,z=.agg (List.toArray vs)/\zu=.agg (vs.map .v))(hi:yR P t=true:=by kernel_rfl):QS P n ops H0 ⟨dst,.typeAssert x s t true,ty,ps,af,none⟩ l M (.dH [zu,.v (.bool false)]):=λ_=>Does.U0 U U hi hz hzu (aJ hx) ⟨rfl,rfl⟩
theorem Z.ieT(hx:bA l x=some (.v .nilIface))(ht:P.isIface t=true:=by kernel_rfl):QS P n ops H0 ⟨dst,.binOp .eql t x (.const .nilIface) t2,ty,ps,af,none⟩ l M (.v (.bool true)):=λ_=>Does.Xo (y:=x) true U U ht (.inl ⟨rfl,aJ hx⟩) ⟨rfl,rfl⟩
theorem Z.ieF(hx:bA l x=some (.zk s u))(ht:P.isIface t=true:=by kernel_rfl):QS P n ops H0 ⟨dst,.binOp .eql t x (.const .nilIface) t2,ty,ps,af,none⟩ l M (.v (.bool false)):=λ_=>Does.Xo (y:=x) false U U ht (.inr ⟨rfl,_,_,aJ hx⟩) ⟨rfl,rfl⟩
theorem Z.BK(hx:bA l x=some (.v .nilIface))(ht:P.isIface t=true:=by kernel_rfl):QS P n ops H0 ⟨dst,.binOp .neq t x (.const .nilIface) t2,ty,ps,af,none⟩ l M (.v (.bool false)):=λ_=>Does.Xp (y:=x) false U U ht (.inl ⟨rfl,aJ hx⟩) ⟨rfl,rfl⟩
theorem Z.inT(hx:bA l x=some (.zk s u))(ht:P.isIface t=true:=by kernel_rfl):QS P n ops H0 ⟨dst,.binOp .neq t x (.const .nilIface) t2,ty,ps,af,none⟩ l M (.v (.bool true)):=λ_=>Does.Xp (y:=x) true U U ht (.inr ⟨rfl,_,_,aJ hx⟩) ⟨rfl,rfl⟩
theorem Z.Yh{f:Nat}{us:List AV}{fs:Array Operand}(ha:gD l fs.toList=some us):QS P n ops H0 ⟨dst,.makeFunc (.func f) fs #[],ty,ps,af,none⟩ l M (.bnd f us):=λaD=>Does.ME U U ⟨by rw[iJ ha],rfl⟩
theorem Z.MF{a:Addr}{sz:Nat}{v:Value}(ht:eQ P t=some (false,sz))(hx:bA l x=some (.v (.pointer (some a))))(h:∀ρ w,dG ρ H0 w->w.cell? a=some v):QS P n ops H0 ⟨dst,.load t x,ty,ps,af,none⟩ l M (.v v):=λaD=>
 Does.val _ U (λac w ρ hh hr=>by
  have h3:=hr x
  rw[aJ hx] at h3
  have hs:Sub H0 (aB H0 M):=gB (r':=[]) aD .nil (by simp)
  exact⟨v,kU U (aP h3) (lv ht (h ρ w (hh.drop hs))),.v _⟩) ⟨rfl,rfl⟩
theorem Z.r2s{k:IntKind}{r:Int}(hd:P.underlying t2=some .string)(hx:bA l x=some (.v (.int k r)))(hs:(P.underlying t).isSome=true):QS P n ops H0 ⟨dst,.convert t t2 x,ty,ps,af,none⟩ l M (.v (.string (Utf8.encode r))):=λaD=>
 Does.val _ U (λac w ρ hh hr=>by
  have h3:=hr x
  rw[aJ hx] at h3
  refine⟨_,?_,.v _⟩
  unfold execOp
  simp only[aP h3,run_convert_int_string w t t2 k r hs hd,Sem.run_bind,Sem.run_pure,Result.andThen_ok]) ⟨rfl,rfl⟩
theorem Z.usn(hx:bA l x=some (.v (.slice none 0 0))):QS P n ops H0 ⟨dst,.call {callee:=.builtin .unsafeSliceData,args:= #[x],argTypes:= #[t]},ty,ps,af,none⟩ l M (.v (.pointer none)):=λaD=>
 Does.val _ U (λac w ρ hh hr=>by
  have h3:=hr x
  rw[aJ hx] at h3
  refine⟨_,z8 U ?_,.v _⟩
  rw[aP h3]
  rfl) ⟨rfl,rfl⟩
theorem Z.usz{y:Operand}(hx:bA l x=some (.v (.pointer none)))(hy:bA l y=some (.v (.int .i64 0))):QS P n ops H0 ⟨dst,.call {callee:=.builtin .unsafeString,args:= #[x,y],argTypes:= #[t,t2]},ty,ps,af,none⟩ l M (.v (.string ⟨#[]⟩)):=λaD=>
 Does.val _ U (λac w ρ hh hr=>by
  have h3:=hr x
  have h4:=hr y
  rw[aJ hx] at h3
  rw[aJ hy] at h4
  refine⟨_,Aa U ?_,.v _⟩
  rw[aP h3,aP h4]
  rfl) ⟨rfl,rfl⟩
end
end
end Go.gW
end
section
namespace Go.Proofs.YtbooeongacgnbaaGreatDoor
open Go Go.gW Go.RowKit
theorem yj{P:Program}{H:Hp}{f:Nat}{us:List AV}(u:AV)(x:Value)(hu:∀ok ρ w,dL ok ρ w u x)(hb:xK P f)(h:∀ρ w vals,dG ρ H w->IX (bK ρ H) ρ w us vals->Calls P f vals.toArray w λe w'=>e=.returned x/\Below w.heap.size w w'):F P f us H (bn H u):=
 ⟨hb,λρ w vals hh hr=>(h ρ w vals hh hr).mono λe w' ⟨he,hbl⟩=>by
   obtain⟨h1,h2⟩:=hh.below hbl
   exact⟨x,ρ,u,H,he,h1,h2,hu _ _ _,rfl,rfl⟩⟩
theorem Ot{ok:Nat->Prop}{ρ:fK}{w:World}(l:List Value):dL ok ρ w (.dH (l.map .v)) (.tuple l.toArray):=by
 refine .dH _ l (by simp) λj u x h1 h2=>?_
 rw[List.getElem?_map,h2] at h1
 cases h1
 exact .v _
theorem bW(a b:ByteArray)(H:Hp):F Tryz.prog 53 [.v (.string a),.v (.string b)] H (bn H (.v (.bool (Lib.hasPrefix a.data.toList b.data.toList)))):=
 F.iU ⟨_,Tryz.func53,by kernel_rfl,by kernel_rfl⟩ λρ w vals hh hr=>by
  obtain⟨hl,hr⟩:=hr
  match vals,hl,hr with
  |[x,y],hl,hr=>
   have e1:=aP (hr 0 _ _ U U)
   have e2:=aP (hr 1 _ _ U U)
   subst e1 e2
   refine(Tryz.strings_HasPrefix a b w).mono<|?_
   rintro e w' ⟨he,rfl⟩
   exact⟨he,Below.refl _ _⟩
theorem rH(a:ByteArray)(c:Int)(H:Hp):F Tryz.prog 108 [.v (.string a),.v (.int .u8 c)] H (bn H (.v (.int .i64 (Lib.indexByte a.data.toList c.toNat.toUInt8)))):=
 F.iU ⟨_,Tryz.func108,by kernel_rfl,by kernel_rfl⟩ λρ w vals hh hr=>by
  obtain⟨hl,hr⟩:=hr
  match vals,hl,hr with
  |[x,y],hl,hr=>
   have e1:=aP (hr 0 _ _ U U)
   have e2:=aP (hr 1 _ _ U U)
   subst e1 e2
   refine(Tryz.strings_IndexByte a c w).mono<|?_
   rintro e w' ⟨he,rfl⟩
   exact⟨he,Below.refl _ _⟩
theorem qN(a:ByteArray)(c:Int)(h0:0<=c)(h1:c<128)(H:Hp):F Tryz.prog 138 [.v (.string a),.v (.int .i32 c)] H (bn H (.v (.int .i64 (Lib.indexByte a.data.toList c.toNat.toUInt8)))):=
 F.iU ⟨_,Tryz.func138,by kernel_rfl,by kernel_rfl⟩ λρ w vals hh hr=>by
  obtain⟨hl,hr⟩:=hr
  match vals,hl,hr with
  |[x,y],hl,hr=>
   have e1:=aP (hr 0 _ _ U U)
   have e2:=aP (hr 1 _ _ U U)
   subst e1 e2
   refine(Tryz.strings_IndexRune_ascii a c w h0 h1).mono<|?_
   rintro e w' ⟨he,rfl⟩
   exact⟨he,Below.refl _ _⟩
theorem BX(a:ByteArray)(hs:a.size<=140737488355328)(ha:∀(j:Nat) (b:UInt8),a.data.toList[j]? =some b->b.toNat<128)(H:Hp):F Tryz.prog 164 [.v (.string a)] H (bn H (.v (.string ⟨(Lib.toLowerA a.data.toList).toArray⟩))):=
 F.iU ⟨_,Tryz.func164,by kernel_rfl,by kernel_rfl⟩ λρ w vals hh hr=>by
  obtain⟨hl,hr⟩:=hr
  match vals,hl,hr with
  |[x],hl,hr=>
   have e1:=aP (hr 0 _ _ U U)
   subst e1
   refine(Tryz.strings_ToLower_ascii a w hs ha).mono<|?_
   rintro e w' ⟨he,hb⟩
   exact⟨he,hb⟩
theorem ja(a b:ByteArray)(H:Hp):F Tryz.prog 126 [.v (.string a),.v (.string b)] H (bn H (.dH [.v (.string ⟨(Lib.trimPrefix a.data.toList b.data.toList).toArray⟩),.v (.bool (Lib.hasPrefix a.data.toList b.data.toList))])):=
 yj _ _ (λok ρ w=>Ot [.string ⟨(Lib.trimPrefix a.data.toList b.data.toList).toArray⟩,.bool (Lib.hasPrefix a.data.toList b.data.toList)]) ⟨_,Tryz.func126,by kernel_rfl,by kernel_rfl⟩ λρ w vals hh hr=>by
  obtain⟨hl,hr⟩:=hr
  match vals,hl,hr with
  |[x,y],hl,hr=>
   have e1:=aP (hr 0 _ _ U U)
   have e2:=aP (hr 1 _ _ U U)
   subst e1 e2
   refine(Tryz.strings_CutPrefix a b w).mono<|?_
   rintro e w' ⟨he,rfl⟩
   exact⟨he,Below.refl _ _⟩
theorem Hf(a:ByteArray)(hs:a.size<=9223372036854775806)(v:Int)(h:Lib.parseIntB 64 a.data.toList=.ok v)(H:Hp):F Tryz.prog 106 [.v (.string a),.v (.int .i64 10),.v (.int .i64 64)] H (bn H (.dH [.v (.int .i64 v),.v .nilIface])):=
 yj _ _ (λok ρ w=>Ot [.int .i64 v,.nilIface]) ⟨_,Tryz.func106,by kernel_rfl,by kernel_rfl⟩ λρ w vals hh hr=>by
  obtain⟨hl,hr⟩:=hr
  match vals,hl,hr with
  |[x,y,z],hl,hr=>
   have e1:=aP (hr 0 _ _ U U)
   have e2:=aP (hr 1 _ _ U U)
   have e3:=aP (hr 2 _ _ U U)
   subst e1 e2 e3
   refine(Tryz.strconv_ParseInt_10_at64_ok a hs v h w).mono<|?_
   rintro e w' ⟨he,hw⟩
   refine⟨he,?_⟩
   rcases hw with rfl|⟨t,rfl⟩
   ·exact Below.refl _ _
   ·exact Lib.bytesWorld_below w 5 t
def sZ(a:ByteArray)(p:Value):AV:=.zk 180 (.rp [.v (.string ⟨#[80,97,114,115,101,73,110,116]⟩),.v (.string a),.v (.iface 204 p)])
theorem xe(a:ByteArray)(n:Int)(p:Value)(H:Hp)(hb:∀ρ w,dG ρ H w->Calls Tryz.prog 106 #[.string a,.int .i64 10,.int .i64 64] w λe w'=>∃N,e=.returned (.tuple #[.int .i64 n,.iface 180 (.pointer (some ⟨N,0,none⟩))])/\w.heap.size<=N/\w'.heap[N]? =some (.cells #[.string ⟨#[80,97,114,115,101,73,110,116]⟩,.string a,.iface 204 p] 199 (0,0))/\Below w.heap.size w w'):
 F Tryz.prog 106 [.v (.string a),.v (.int .i64 10),.v (.int .i64 64)] H (bn H (.dH [.v (.int .i64 n),sZ a p])):=
 ⟨⟨_,Tryz.func106,by kernel_rfl,by kernel_rfl⟩,λρ w vals hh hr=>by
   obtain⟨hl,hr⟩:=hr
   match vals,hl,hr with
   |[x,y,z],hl,hr=>
    have e1:=aP (hr 0 _ _ U U)
    have e2:=aP (hr 1 _ _ U U)
    have e3:=aP (hr 2 _ _ U U)
    subst e1 e2 e3
    refine(hb ρ w hh).mono<|?_
    rintro e w' ⟨N,he,hN,hc,hbl⟩
    obtain⟨h1,h2⟩:=hh.below hbl
    have hlt:N<w'.heap.size:=(Array.getElem?_eq_some_iff.1 hc).1
    refine⟨_,ρ,_,H,he,h1,h2,?_,rfl,rfl⟩
    have hcell:∀j:Nat,w'.cell? ((⟨N,0,none⟩:Addr).add j)=(#[Value.string ⟨#[80,97,114,115,101,73,110,116]⟩,.string a,.iface 204 p])[j]? :=λj=>by
     rw[add_plain,Nat.zero_add]
     simp[World.cell?,hc]
    refine .dH _ [.int .i64 n,.iface 180 (.pointer (some ⟨N,0,none⟩))] U λj u x g1 g2=>?_
    match j with
    |0=>cases g1;cases g2;exact .v _
    |1=>
     cases g1;cases g2
     refine .zk _ _ _ (.rp _ ⟨N,0,none⟩ (λj=>(#[Value.string ⟨#[80,97,114,115,101,73,110,116]⟩,.string a,.iface 204 p]).getD j default) (λ_=>⟨?_,hlt⟩) (λj hj=>?_) (λj u hu=>?_))
     ·rintro⟨id,ob,v,g3,g4,g5⟩
      have:=hh.lt id v N g4 g5
      omega
     ·rw[hcell]
      match j,hj with
      |0,_=>exact⟨rfl,rfl⟩
      |1,_=>exact⟨rfl,rfl⟩
      |2,_=>exact⟨rfl,rfl⟩
     ·match j with
      |0=>cases hu;exact .v _
      |1=>cases hu;exact .v _
      |2=>cases hu;exact .v _
      |j+3=>simp at hu
    |j+2=>simp at g1⟩
theorem EZ(a:ByteArray)(hs:a.size<=281474976710656)(h:Lib.parseIntB 64 a.data.toList=.«syntax»)(H:Hp){ga gb:Addr}(hG:bO ga gb H):F Tryz.prog 106 [.v (.string a),.v (.int .i64 10),.v (.int .i64 64)] H (bn H (.dH [.v (.int .i64 0),sZ a (.pointer (some ga))])):=
 xe a 0 _ H λρ w hh=>Tryz.strconv_ParseInt_10_at64_syntax_var a hs h _ _ w (hG.facts hh).Yf
theorem E5(a:ByteArray)(hs:a.size<=281474976710656)(h:Lib.parseIntB 64 a.data.toList=.range)(H:Hp){ga gb:Addr}(hG:bO ga gb H):F Tryz.prog 106 [.v (.string a),.v (.int .i64 10),.v (.int .i64 64)] H (bn H (.dH [.v (.int .i64 (Lib.intSat 64 a.data.toList)),sZ a (.pointer (some gb))])):=
 xe a _ _ H λρ w hh=>Tryz.strconv_ParseInt_10_at64_range_var a hs h _ _ w (hG.facts hh).ran
theorem bu(s:ByteArray)(p:Nat):p<=aC s p:=by
 rw[aC]
 split
 ·split
  ·exact Nat.le_trans (Nat.le_succ p) (bu s (p+1))
  ·exact Nat.le_refl _
 ·exact Nat.le_refl _
termination_by s.size-p
theorem aX(s:ByteArray)(p:Nat)(h:p<=s.size):aC s p<=s.size:=by
 rw[aC]
 split
 ·split
  ·exact aX s (p+1) (by omega)
  ·exact h
 ·exact h
termination_by s.size-p
theorem sF(s:ByteArray)(p:Nat)(h:p<=s.size):p+aT s p<=s.size:=by
 rw[aT]
 split
 ·split
  ·have:=sF s (p+1) (by omega);omega
  ·omega
 ·omega
termination_by s.size-p
theorem E8(u:ByteArray)(p:Nat)(out:ByteArray){t:ByteArray}{n:Nat}(h:jA u p out=some (t,n)):p<n/\n<=u.size:=by
 rw[jA] at h
 split at h
 ·rename_i hp
  split at h
  ·cases h;omega
  ·split at h
   ·split at h
    ·cases h
    ·split at h
     ·have:=E8 u _ _ h;omega
     ·cases h
   ·split at h
    ·have:=E8 u _ _ h;omega
    ·cases h
 ·cases h
termination_by u.size-p
theorem fV{u:ByteArray}{t:ByteArray}{n:Nat}(h:gV u=some (t,n)):2<=n/\n<=u.size:=by
 unfold gV at h
 split at h
 ·cases h
 ·have:=E8 u _ _ h;omega
theorem bP{s:ByteArray}{p:Nat}{c:Int}(h:bT s p c=true):p<s.size:=by
 unfold bT at h
 have:=of_decide_eq_true (Bool.and_eq_true_iff.1 h).1
 omega
theorem ext_size(s:ByteArray)(p:Nat):(s.extract p s.size).size=s.size-p:=by simp
theorem Lg{s:ByteArray}{p q:Nat}{v:V}(hp:p<=s.size)(h:ko s p=.ok q v):p<q/\q<=s.size:=by
 unfold ko at h
 have ha:∃a,(if bT s p 45=true then p+1 else p)=a/\p<=a/\a<=s.size:=⟨_,rfl,by split<;>omega,by
  split
  ·rename_i h1;have:=bP h1;omega
  ·exact hp⟩
 obtain⟨a,e,h1,h2⟩:=ha
 rw[e] at h
 have h3:=sF s a h2
 unfold rG at h
 split at h
 ·cases h
 ·rename_i h4
  split at h
  ·cases h
  ·split at h
   ·cases h
   ·cases h;omega
theorem Hg{s:ByteArray}{p q:Nat}{v:V}(h:eG s p=.ok q v):p<q/\q<=s.size:=by
 have key:∀w:ByteArray,preB s p w=true->p+w.size<=s.size:=λw h=>of_decide_eq_true (Bool.and_eq_true_iff.1 h).1
 unfold eG at h
 split at h
 ·rename_i h1;have h2:p+4<=s.size:=key _ h1;cases h;omega
 ·split at h
  ·rename_i h1;have h2:p+4<=s.size:=key _ h1;cases h;omega
  ·split at h
   ·rename_i h1;have h2:p+5<=s.size:=key _ h1;cases h;omega
   ·cases h
theorem kM(s:ByteArray):∀f,(∀p d q v,p<=s.size->fQ s f p d=.ok q v->p<q/\q<=s.size)/\(∀p d ob q v,p<s.size->gJ s f p d ob=.ok q v->p<q/\q<=s.size)/\
 (∀p d ob w q v,p<=s.size->dP s f p d ob w=.ok q v->p<q/\q<=s.size)/\(∀p d w q v,p<=s.size->gM s f p d w=.ok q v->p<q/\q<=s.size)
 |0=>⟨(λp d q v _ h=>by rw[fQ] at h;cases h),(λp d ob q v _ h=>by rw[gJ] at h;cases h),(λp d ob w q v _ h=>by rw[dP] at h;cases h),(λp d w q v _ h=>by rw[gM] at h;cases h)⟩
 |f+1=>by
  obtain⟨iv,im,il,ip⟩:=kM s f
  refine⟨λp d q v hp h=>?_,λp d ob q v hp h=>?_,λp d ob w q v hp h=>?_,λp d w q v hp h=>?_⟩
  ·rw[fQ] at h
   split at h
   ·rename_i hb
    have hlt:p<s.size:=hb.elim bP bP
    split at h
    ·cases h
    ·exact im _ _ _ _ _ hlt h
   ·split at h
    ·split at h
     ·cases h
     ·rename_i hu
      have:=fV hu
      rw[ext_size] at this
      cases h;omega
    ·split at h
     ·exact Lg hp h
     ·exact Hg h
  ·rw[gJ] at h
   have h1:=bu s (p+1)
   have h2:=aX s (p+1) (by omega)
   split at h
   ·rename_i hb
    have:=bP hb
    cases h;omega
   ·have:=il _ _ _ _ _ _ h2 h;omega
  ·rw[dP] at h
   split at h
   ·cases h
   ·rename_i q1 v1 he
    have hq:p<q1/\q1<=s.size:=by
     split at he
     ·exact ip _ _ _ _ _ hp he
     ·split at he
      ·cases he
      ·rename_i hv
       cases he
       exact iv _ _ _ _ hp hv
    have h1:=bu s q1
    have h2:=aX s q1 hq.2
    split at h
    ·rename_i hb
     have:=bP hb
     cases h;omega
    ·split at h
     ·rename_i hb
      have:=bP hb
      have h3:=bu s (aC s q1+1)
      have h4:=aX s (aC s q1+1) (by omega)
      have:=il _ _ _ _ _ _ h4 h;omega
     ·cases h
  ·rw[gM] at h
   split at h
   ·cases h
   ·rename_i hu
    have hn:=fV hu
    rw[ext_size] at hn
    split at h
    ·cases h
    ·split at h
     ·rename_i hb
      have:=bP hb
      split at h
      ·cases h
      ·rename_i n _ _ _ _ hv
       have h3:=bu s (p+n)
       have h4:=bu s (aC s (p+n)+1)
       have h5:=aX s (aC s (p+n)+1) (by omega)
       have:=iv _ _ _ _ h5 hv
       cases h;omega
     ·cases h
theorem Hl{s:ByteArray}{p q:Nat}{e:Int}(h:ko s p=.err e q):e=11\/e=13:=by
 unfold ko rG at h
 generalize (if bT s p 45=true then p+1 else p)=a at h
 split at h
 ·cases h;exact .inl U
 ·split at h
  ·cases h;exact .inr U
  ·split at h
   ·cases h;exact .inr U
   ·cases h
theorem CW{s:ByteArray}{p q:Nat}{e:Int}(h:eG s p=.err e q):e=11:=by
 unfold eG at h
 split at h
 ·cases h
 ·split at h
  ·cases h
  ·split at h
   ·cases h
   ·cases h;rfl
theorem xg(s:ByteArray):∀f,(∀p d q,p<=s.size->4*(s.size-p)+4<=f->fQ s f p d≠.err 0 q)/\(∀p d ob q,p<s.size->4*(s.size-p)+3<=f->gJ s f p d ob≠.err 0 q)/\
 (∀p d ob w q,p<=s.size->4*(s.size-p)+6<=f->dP s f p d ob w≠.err 0 q)/\(∀p d w q,p<=s.size->4*(s.size-p)+5<=f->gM s f p d w≠.err 0 q)
 |0=>⟨λp d q _ h=>by omega,λp d ob q _ h=>by omega,λp d ob w q _ h=>by omega,λp d w q _ h=>by omega⟩
 |f+1=>by
  obtain⟨iv,im,il,ip⟩:=xg s f
  obtain⟨ov,om,ol,op⟩:=kM s f
  refine⟨λp d q hp hf h=>?_,λp d ob q hp hf h=>?_,λp d ob w q hp hf h=>?_,λp d w q hp hf h=>?_⟩
  ·rw[fQ] at h
   split at h
   ·rename_i hb
    have hlt:p<s.size:=hb.elim bP bP
    split at h
    ·cases h
    ·exact im _ _ _ _ hlt (by omega) h
   ·split at h
    ·split at h
     ·cases h
     ·cases h
    ·split at h
     ·have:=Hl h;omega
     ·have:=CW h;omega
  ·rw[gJ] at h
   have h1:=bu s (p+1)
   have h2:=aX s (p+1) (by omega)
   split at h
   ·cases h
   ·exact il _ _ _ _ _ h2 (by omega) h
  ·rw[dP] at h
   split at h
   ·rename_i e q1 he
    cases h
    split at he
    ·exact ip _ _ _ _ hp (by omega) he
    ·split at he
     ·rename_i hv;cases he;exact iv _ _ _ hp (by omega) hv
     ·cases he
   ·rename_i q1 v1 he
    have hq:p<q1/\q1<=s.size:=by
     split at he
     ·exact op _ _ _ _ _ hp he
     ·split at he
      ·cases he
      ·rename_i hv
       cases he
       exact ov _ _ _ _ hp hv
    have h1:=bu s q1
    have h2:=aX s q1 hq.2
    split at h
    ·cases h
    ·split at h
     ·rename_i hb
      have:=bP hb
      have h3:=bu s (aC s q1+1)
      have h4:=aX s (aC s q1+1) (by omega)
      exact il _ _ _ _ _ h4 (by omega) h
     ·cases h
  ·rw[gM] at h
   split at h
   ·cases h
   ·rename_i hu
    have hn:=fV hu
    rw[ext_size] at hn
    split at h
    ·cases h
    ·split at h
     ·rename_i hb
      have:=bP hb
      split at h
      ·rename_i n _ _ _ _ hv
       have h3:=bu s (p+n)
       have h4:=bu s (aC s (p+n)+1)
       have h5:=aX s (aC s (p+n)+1) (by omega)
       cases h
       exact iv _ _ _ h5 (by omega) hv
      ·cases h
     ·cases h
def tq(s:ByteArray)(p:Nat)(e:Int)(d:Nat):List AV:=[.v (.string s),.v (.int .i64 (p:Int)),.v (.int .i64 e),.v (.int .i64 (d:Int))]
theorem AQ(s:ByteArray)(p d:Nat)(e:Int)(he:e≠0)(c:Int)(H:Hp):F Tryz.prog 62 [.agg (tq s p e d),.v (.int .u8 c)] H (bn H (.v (.bool false))):=by
 refine aA (n:=25) (H0:=H) (M:=[]) Tryz.func62 (by kernel_rfl) U (by rw[Tryz.ntmps62];rfl) .nil<|?_
 refine Q.rg<|S.dd<|D.box U U U λp2=>Q.as U<|Q.nt<|Q.rg<|Q.fa dz U<|Q.lc 0 bC U U U<|Q.bi U U U<|Q.mv U<|S.tF 8 (bf (by omega))<|Q.of<|Q.of<|Q.of<|Q.of<|Q.of<|Q.of<|Q.pk U U<|Q.mv U<|Q.of<|Q.of<|Q.of<|Q.of<|Q.of<|Q.of<|Q.of<|Q.pk U U<|Q.as U<|Q.nt<|UW.ret<|S.bG (λ_=>au U U)<|?_
 rfl
theorem MG{s:ByteArray}{p:Nat}(h:p<s.size):ik (aO s (p:Int))=(bT s p 32||bT s p 9||bT s p 10||bT s p 13):=by
 unfold bT ik
 rw[decide_eq_true (by omega:(p:Int)<s.size)]
 simp only[Bool.true_and]
theorem yl{s:ByteArray}{p:Nat}(h:p<s.size)(hb:ik (aO s (p:Int))=true):aC s p=aC s (p+1):=by
 rw[aC.eq_def s p,dif_pos h,if_pos hb]
theorem AR{s:ByteArray}{p:Nat}(h:p<s.size->ik (aO s (p:Int))=false):aC s p=p:=by
 rw[aC.eq_def s p]
 split
 ·rename_i hp
  rw[if_neg (by rw[h hp];decide)]
 ·rfl
theorem dF(s:ByteArray)(p d:Nat)(hs:s.size<=1000000)(hp:p<=s.size)(H:Hp):F Tryz.prog 42 [.agg (dZ s p d)] H (bn H (.agg (dZ s (aC s p) d))):=by
 have hi:∀(p:Nat) (c:Int) H,F Tryz.prog 62 [.agg (dZ s p d),.v (.int .u8 c)] H (bn H (.v (.bool (bT s p c)))):=λp c H=>ji s p d c hs H
 refine aA (n:=22) (H0:=H) (M:=[]) Tryz.func42 (by kernel_rfl) U (by rw[Tryz.ntmps42];rfl) .nil<|?_
 refine Q.rg<|S.dd<|D.box U U U λp1=>S.dd<|D.al z72 U U U λp2=>Q.nt<|S.sq<|UW.block<|S.loop (λj:Nat=>[(1,.ptr p1 0),(2,.ptr p2 0)]) (λj=>[(p2,.box 72 [.v (.string ⟨#[]⟩),.v (.int .i64 0),.v (.int .i64 0),.v (.int .i64 0)]),(p1,.box 72 (dZ s j d))]) (λj=>j<=s.size/\aC s j=aC s p) (λj=>s.size-j) p ⟨hp,rfl⟩ ⟨rfl,rfl,trivial⟩ (.refl _)<|?_
 rintro j ⟨hj,hjs⟩
 have hi2:=hi j
 by_cases hlt:j<s.size
 ·have hb:=MG hlt
  have Ou:=yl hlt
  have hno:ik (aO s (j:Int))=false->aC s j=j:=λh=>AR λ_=>h
  have hgo:ik (aO s (j:Int))=true->j+1<=s.size/\aC s (j+1)=aC s p:=λh=>⟨hlt,by rw[<-Ou h,hjs]⟩
  cases h1:bT s j 32 with
  |true=>
   have hq:=hgo (by rw[hb,h1];rfl)
   refine S.sq<|Q.rg<|S.qu (Z.bg 1 aF U U U)<|S.qu (Z.tT (Z.call U U (λH=>hi2 32 H)) h1)<|Q.mv U<|Q.of<|Q.of<|Q.pk U U<|Q.mv U<|Q.of<|Q.of<|Q.pk U U<|Q.mv U<|Q.of<|Q.of<|Q.pk U U<|Q.nt<|S.cT U U<|UW.skip<|UQ.then<|UW.block<|S.rg<|Q.fa bB U<|Q.lc 1 bC U U U<|S.qu (Z.add (r:=((j+1:Nat):Int)) U U (IntWalk.i64_in _ (by omega)))<|Q.fa bB U<|S.s<|D.st 1 bC U U U U U U U U λ_=>US.nil<|UQ.aI<|?_
   refine S.back (j+1) ⟨rfl,rfl,trivial⟩ (.refl _) (by omega) (by omega)
  |false=>
   cases h2:bT s j 9 with
   |true=>
    have hq:=hgo (by rw[hb,h1,h2];rfl)
    refine S.sq<|Q.rg<|S.qu (Z.bg 1 aF U U U)<|S.qu (Z.tF (Z.call U U (λH=>hi2 32 H)) h1)<|Q.mv U<|Q.on (Z.bg 1 aF U U U)<|Q.on (Z.tT (Z.call U U (λH=>hi2 9 H)) h2)<|Q.pk U U<|Q.mv U<|Q.of<|Q.of<|Q.pk U U<|Q.mv U<|Q.of<|Q.of<|Q.pk U U<|Q.nt<|S.cT U U<|UW.skip<|UQ.then<|UW.block<|S.rg<|Q.fa bB U<|Q.lc 1 bC U U U<|S.qu (Z.add (r:=((j+1:Nat):Int)) U U (IntWalk.i64_in _ (by omega)))<|Q.fa bB U<|S.s<|D.st 1 bC U U U U U U U U λ_=>US.nil<|UQ.aI<|?_
    refine S.back (j+1) ⟨rfl,rfl,trivial⟩ (.refl _) (by omega) (by omega)
   |false=>
    cases h3:bT s j 10 with
    |true=>
     have hq:=hgo (by rw[hb,h1,h2,h3];rfl)
     refine S.sq<|Q.rg<|S.qu (Z.bg 1 aF U U U)<|S.qu (Z.tF (Z.call U U (λH=>hi2 32 H)) h1)<|Q.mv U<|Q.on (Z.bg 1 aF U U U)<|Q.on (Z.tF (Z.call U U (λH=>hi2 9 H)) h2)<|Q.pk U U<|Q.mv U<|Q.on (Z.bg 1 aF U U U)<|Q.on (Z.tT (Z.call U U (λH=>hi2 10 H)) h3)<|Q.pk U U<|Q.mv U<|Q.of<|Q.of<|Q.pk U U<|Q.nt<|S.cT U U<|UW.skip<|UQ.then<|UW.block<|S.rg<|Q.fa bB U<|Q.lc 1 bC U U U<|S.qu (Z.add (r:=((j+1:Nat):Int)) U U (IntWalk.i64_in _ (by omega)))<|Q.fa bB U<|S.s<|D.st 1 bC U U U U U U U U λ_=>US.nil<|UQ.aI<|?_
     refine S.back (j+1) ⟨rfl,rfl,trivial⟩ (.refl _) (by omega) (by omega)
    |false=>
     cases h4:bT s j 13 with
     |true=>
      have hq:=hgo (by rw[hb,h1,h2,h3,h4];rfl)
      refine S.sq<|Q.rg<|S.qu (Z.bg 1 aF U U U)<|S.qu (Z.tF (Z.call U U (λH=>hi2 32 H)) h1)<|Q.mv U<|Q.on (Z.bg 1 aF U U U)<|Q.on (Z.tF (Z.call U U (λH=>hi2 9 H)) h2)<|Q.pk U U<|Q.mv U<|Q.on (Z.bg 1 aF U U U)<|Q.on (Z.tF (Z.call U U (λH=>hi2 10 H)) h3)<|Q.pk U U<|Q.mv U<|Q.on (Z.bg 1 aF U U U)<|Q.on (Z.tT (Z.call U U (λH=>hi2 13 H)) h4)<|Q.pk U U<|Q.nt<|S.cT U U<|UW.skip<|UQ.then<|UW.block<|S.rg<|Q.fa bB U<|Q.lc 1 bC U U U<|S.qu (Z.add (r:=((j+1:Nat):Int)) U U (IntWalk.i64_in _ (by omega)))<|Q.fa bB U<|S.s<|D.st 1 bC U U U U U U U U λ_=>US.nil<|UQ.aI<|?_
      refine S.back (j+1) ⟨rfl,rfl,trivial⟩ (.refl _) (by omega) (by omega)
     |false=>
      have hjp:aC s p=j:=by rw[<-hjs,hno (by rw[hb,h1,h2,h3,h4];rfl)]
      rw[hjp]
      refine S.sq<|Q.rg<|S.qu (Z.bg 1 aF U U U)<|S.qu (Z.tF (Z.call U U (λH=>hi2 32 H)) h1)<|Q.mv U<|Q.on (Z.bg 1 aF U U U)<|Q.on (Z.tF (Z.call U U (λH=>hi2 9 H)) h2)<|Q.pk U U<|Q.mv U<|Q.on (Z.bg 1 aF U U U)<|Q.on (Z.tF (Z.call U U (λH=>hi2 10 H)) h3)<|Q.pk U U<|Q.mv U<|Q.on (Z.bg 1 aF U U U)<|Q.on (Z.tF (Z.call U U (λH=>hi2 13 H)) h4)<|Q.pk U U<|Q.nt<|S.cF U U<|UW.exit<|UQ.pass<|UQ.pass<|UQ.here<|UQ.then<|Q.rg<|S.qu (Z.bg 1 aF U U U)<|S.s<|D.st 0 aF U U U U U U U U λ_=>Q.nt<|UW.ret<|S.bG (λhd=>di (k:=0) hd U U U fM fO)<|?_
      rfl
 ·have hz:∀c,bT s j c=false:=λc=>by unfold bT;rw[decide_eq_false (by omega),Bool.false_and]
  have h1:=hz 32
  have h2:=hz 9
  have h3:=hz 10
  have h4:=hz 13
  have hjp:aC s p=j:=by rw[<-hjs,AR λh=>absurd h hlt]
  rw[hjp]
  refine S.sq<|Q.rg<|S.qu (Z.bg 1 aF U U U)<|S.qu (Z.tF (Z.call U U (λH=>hi2 32 H)) h1)<|Q.mv U<|Q.on (Z.bg 1 aF U U U)<|Q.on (Z.tF (Z.call U U (λH=>hi2 9 H)) h2)<|Q.pk U U<|Q.mv U<|Q.on (Z.bg 1 aF U U U)<|Q.on (Z.tF (Z.call U U (λH=>hi2 10 H)) h3)<|Q.pk U U<|Q.mv U<|Q.on (Z.bg 1 aF U U U)<|Q.on (Z.tF (Z.call U U (λH=>hi2 13 H)) h4)<|Q.pk U U<|Q.nt<|S.cF U U<|UW.exit<|UQ.pass<|UQ.pass<|UQ.here<|UQ.then<|Q.rg<|S.qu (Z.bg 1 aF U U U)<|S.s<|D.st 0 aF U U U U U U U U λ_=>Q.nt<|UW.ret<|S.bG (λhd=>di (k:=0) hd U U U fM fO)<|?_
  rfl
end Go.Proofs.YtbooeongacgnbaaGreatDoor
end
