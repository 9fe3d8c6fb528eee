/- A part of the proof. -/
import Derived.Test.YtbooeongacgnbaaGreatDoorMw09
import Derived.Test.YtbooeongacgnbaaGreatDoorMw13
import Derived.Test.YtbooeongacgnbaaGreatDoorMw17
import Derived.Test.YtbooeongacgnbaaGreatDoorMw16
import Derived.Test.YtbooeongacgnbaaGreatDoorMw14
import Derived.Laws.MakeOwn
import Derived.MapKept
import Derived.Carry
set_option maxRecDepth 100000
set_option maxHeartbeats 4000000
set_option linter.unusedSectionVars false
set_option linter.unusedVariables false
set_option linter.unusedSimpArgs false
section
namespace Go.Proofs.YtbooeongacgnbaaGreatDoor
open Go Go.gW Go.RowKit
def dZ(s:ByteArray)(p d:Nat):List AV:=[.v (.string s),.v (.int .i64 (p:Int)),.v (.int .i64 0),.v (.int .i64 (d:Int))]
def bT(s:ByteArray)(p:Nat)(c:Int):Bool:=decide ((p:Int)<s.size)&&(aO s (p:Int)==c)
theorem ji(s:ByteArray)(p d:Nat)(c:Int)(hs:s.size<=1000000)(H:Hp):F Tryz.prog 62 [.agg (dZ s p d),.v (.int .u8 c)] H (bn H (.v (.bool (bT s p c)))):=by
 by_cases hlt:(p:Int)<s.size
 ·have h1:bT s p c=(aO s (p:Int)==c):=by unfold bT;rw[decide_eq_true hlt,Bool.true_and]
  rw[h1]
  refine aA (n:=25) (H0:=H) (M:=[]) Tryz.func62 (by kernel_rfl) U (by rw[Tryz.ntmps62];rfl) .nil<|?_
  focus
   refine Q.rg<|S.dd<|D.box U U U λp2=>Q.as U<|Q.nt<|Q.rg<|Q.fa dz U<|Q.lc 0 bC U U U<|Q.bi U U U<|Q.mv U<|?_
   refine S.tE 8 (λhc8=>?_) (λhc8=>?_)
   rotate_left
   omega
   refine Q.on (Z.fa bB U)<|Q.on (Z.dQ 0 bC U U U)<|Q.on (Z.fa dO U)<|Q.on (Z.dQ 0 fJ U U U)<|Q.on (Z.fC Tryz.underlying9 U)<|Q.on (Z.bi U U U)<|Q.pk U U<|Q.mv U<|?_
   refine S.tD 16 (λhc16=>?_) (λhc16=>?_)
   rotate_left
   omega
   refine Q.on (Z.fa dO U)<|Q.on (Z.dQ 0 fJ U U U)<|Q.on (Z.fa bB U)<|Q.on (Z.dQ 0 bC U U U)<|S.dd<|D.on<|D.ib Tryz.underlying9 U U (by omega) (by omega) λh21=>Q.on (Z.mv U)<|Q.on (Z.bi U U U)<|Q.pk U U<|Q.as U<|Q.nt<|UW.ret<|S.bG (λ_=>au U U)<|?_
   rfl
 ·have h1:bT s p c=false:=by unfold bT;rw[decide_eq_false hlt,Bool.false_and]
  rw[h1]
  refine aA (n:=25) (H0:=H) (M:=[]) Tryz.func62 (by kernel_rfl) U (by rw[Tryz.ntmps62];rfl) .nil<|?_
  focus
   refine Q.rg<|S.dd<|D.box U U U λp2=>Q.as U<|Q.nt<|Q.rg<|Q.fa dz U<|Q.lc 0 bC U U U<|Q.bi U U U<|Q.mv U<|?_
   refine S.tE 8 (λhc8=>?_) (λhc8=>?_)
   rotate_left
   omega
   refine Q.on (Z.fa bB U)<|Q.on (Z.dQ 0 bC U U U)<|Q.on (Z.fa dO U)<|Q.on (Z.dQ 0 fJ U U U)<|Q.on (Z.fC Tryz.underlying9 U)<|Q.on (Z.bi U U U)<|Q.pk U U<|Q.mv U<|S.tF 16 (decide_eq_false (by omega))<|Q.of<|Q.of<|Q.of<|Q.of<|Q.of<|Q.of<|Q.of<|Q.pk U U<|Q.as U<|Q.nt<|UW.ret<|S.bG (λ_=>au U U)<|?_
   rfl
theorem qx(u:ByteArray)(a b:Nat):(u.extract a b).data.toList=(u.data.toList.drop a).take (b-a):=by
 rw[ByteArray.data_extract,Array.toList_extract]
theorem Oi(u:ByteArray)(a b:Nat)(h:a<=b):u.extract a b++u.extract b (b+1)=u.extract a (b+1):=by
 apply ByteArray.ext
 apply Array.ext'
 rw[ByteArray.data_append,Array.toList_append,qx,qx,qx,show b+1-a=(b-a)+(b+1-b) from by omega,List.take_add,List.drop_drop,show a+(b-a)=b from by omega]
theorem rF{a b:ByteArray}(h:a.data.toList=b.data.toList):a=b:=ByteArray.ext (Array.ext' h)
theorem uU(a b:ByteArray):(a++b).data.toList=a.data.toList++b.data.toList:=by rw[ByteArray.data_append,Array.toList_append]
theorem wZ(c:Int):(aM c).data.toList=[UInt8.ofNat c.toNat]:=rfl
theorem yg(n:Int):(kI n).data.toList=Lib.itoa n:=rfl
theorem G7{u:Nat}(h:¬u<10):Lib.decDigits u=Lib.decDigits (u/10)++[UInt8.ofNat (48+u % 10)]:=by rw[Lib.decDigits,dif_neg h]
theorem UT{n:Int}(h:n<0)(h1: -10<n):aM 45++aM (48+ -n)=kI n:=by
 refine rF<|?_
 rw[uU,wZ,wZ,yg]
 unfold Lib.itoa
 rw[if_pos h,Lib.decDigits_one (by omega),show(48+ -n).toNat=48+n.natAbs from by omega];rfl
theorem UU{n:Int}(h:n<= -10):kI (n.tdiv 10)++aM (48+ -(n.tmod 10))=kI n:=by
 have h1:n.tdiv 10= -((n.natAbs/10:Nat):Int):=by
  rw[show n= -((n.natAbs:Nat):Int) from by omega,Int.neg_tdiv]
  congr 1
  rw[Int.natAbs_neg,Int.natAbs_natCast];rfl
 have h2:n.tmod 10= -((n.natAbs % 10:Nat):Int):=by
  rw[show n= -((n.natAbs:Nat):Int) from by omega,Int.neg_tmod]
  congr 1
  rw[Int.natAbs_neg,Int.natAbs_natCast];rfl
 refine rF<|?_
 rw[uU,wZ,yg,yg,h1,h2]
 unfold Lib.itoa
 rw[if_pos (by omega),if_pos (by omega),Int.natAbs_neg,Int.natAbs_natCast,G7 (u:=n.natAbs) (by omega),show(48+ -(-((n.natAbs % 10:Nat):Int))).toNat=48+n.natAbs % 10 from by omega];rfl
theorem UX{n:Int}(h:0<=n)(h1:n<10):aM (48+n)=kI n:=by
 refine rF<|?_
 rw[wZ,yg]
 unfold Lib.itoa
 rw[if_neg (by omega),Lib.decDigits_one (by omega),show(48+n).toNat=48+n.toNat from by omega]
theorem UY{n:Int}(h:10<=n):kI (n.tdiv 10)++aM (48+n.tmod 10)=kI n:=by
 have h1:n.tdiv 10=n/10:=Int.tdiv_eq_ediv_of_nonneg (by omega)
 have h2:n.tmod 10=n % 10:=Int.tmod_eq_emod_of_nonneg (by omega)
 refine rF<|?_
 rw[uU,wZ,yg,yg,h1,h2]
 unfold Lib.itoa
 rw[if_neg (by omega),if_neg (by omega),G7 (u:=n.toNat) (by omega),show(48+n % 10).toNat=48+n.toNat % 10 from by omega,show(n/10).toNat=n.toNat/10 from by omega]
def o5:List ByteArray->Nat
 |[]=>0
 |a::r=>a.size+1+o5 r
def comma:ByteArray:=⟨#[44]⟩
theorem zx(l:List ByteArray)(sep:ByteArray):(fP l sep).data.toList=Lib.join (l.map (·.data.toList)) sep.data.toList:=rfl
theorem BU(sep:List UInt8)(r:List (List UInt8))(y:List UInt8):Lib.joinTail sep (r++[y])=Lib.joinTail sep r++sep++y:=by unfold Lib.joinTail;simp[List.append_assoc]
theorem CR(l:List ByteArray)(x sep:ByteArray):fP (l++[x]) sep=if l=[] then x else(fP l sep++sep)++x:=by
 cases l with
 |nil=>exact rF (by rw[zx];exact Lib.join_one _ _)
 |cons a r=>
  rw[if_neg (by simp)]
  refine rF<|?_
  rw[uU,uU,zx,zx,List.cons_append,List.map_cons,List.map_append,List.map_cons,List.map_nil,List.map_cons,Lib.join_cons,Lib.join_cons,BU]
  simp only[List.append_assoc]
theorem tL:∀r:List ByteArray,(Lib.joinTail comma.data.toList (r.map (·.data.toList))).length=o5 r
 |[]=>rfl
 |a::r=>by
  have:=tL r
  unfold Lib.joinTail at this⊢
  simp only[List.map_cons,List.flatten_cons,List.length_append,this]
  show 1+_+_=a.size+1+o5 r
  have:a.data.toList.length=a.size:=mG a
  omega
theorem qy(l:List ByteArray):(fP l comma).size<=o5 l:=by
 have h:=mG (fP l comma)
 rw[<-h,zx]
 cases l with
 |nil=>exact Nat.zero_le _
 |cons a r=>
  rw[List.map_cons,Lib.join_cons,List.length_append,tL]
  have:a.data.toList.length=a.size:=mG a
  show _<=a.size+1+o5 r
  omega
theorem CS:∀(l:List ByteArray) (k:Nat),o5 (l.take k)<=o5 l
 |[],k=>by simp[o5]
 |a::r,0=>Nat.zero_le _
 |a::r,k+1=>by have:=CS r k;show a.size+1+o5 (r.take k)<=a.size+1+o5 r;omega
theorem ES:∀(l:List ByteArray) (k:Nat) (h:k<l.length),l[k].size<=o5 l
 |a::r,0,_=>by show a.size<=a.size+1+o5 r;omega
 |a::r,k+1,h=>by have:=ES r k (by simpa using h);show(r[k]'(by simpa using h)).size<=a.size+1+o5 r;omega
def eY(b:Bool):List ByteArray->List ByteArray->List ByteArray
 |_,[]=>[]
 |[],p::ps=>p::eY b [] ps
 |key::ks,p::ps=>(if b=true then(dJ key++aM 58)++p else p)::eY b ks ps
theorem su(b:Bool):∀ks ps:List ByteArray,(eY b ks ps).length=ps.length
 |[],[]=>rfl
 |_::_,[]=>rfl
 |[],p::ps=>by show _+1=_+1;rw[su b [] ps]
 |_::ks,p::ps=>by show _+1=_+1;rw[su b ks ps]
theorem yh(b:Bool):∀ps:List ByteArray,eY b [] ps=ps
 |[]=>rfl
 |p::ps=>by show p::_=_;rw[yh b ps]
theorem AB(b:Bool):∀(ks ps:List ByteArray) (i:Nat),i<ps.length->(eY b ks ps).getD i ⟨#[]⟩=if b=true/\i<ks.length then(dJ (ks.getD i ⟨#[]⟩)++aM 58)++ps.getD i ⟨#[]⟩ else ps.getD i ⟨#[]⟩
 |[],ps,i,h=>by rw[yh,if_neg (by rintro⟨_,h2⟩;simp at h2)]
 |key::ks,p::ps,0,h=>by
  show(if b=true then _ else _)=_
  by_cases hb:b=true
  ·rw[if_pos hb,if_pos ⟨hb,Nat.zero_lt_succ _⟩];rfl
  ·rw[if_neg hb,if_neg (λh=>hb h.1)];rfl
 |key::ks,p::ps,i+1,h=>by
  show(eY b ks ps).getD i ⟨#[]⟩=_
  rw[AB b ks ps i (by simpa using h)]
  show _=if b=true/\i+1<ks.length+1 then(dJ (ks.getD i ⟨#[]⟩)++aM 58)++ps.getD i ⟨#[]⟩ else ps.getD i ⟨#[]⟩
  by_cases hb:b=true/\i<ks.length
  ·rw[if_pos hb,if_pos ⟨hb.1,by omega⟩]
  ·rw[if_neg hb,if_neg (λh=>hb ⟨h.1,by omega⟩)]
def zy:List ByteArray->Nat
 |[]=>0
 |a::r=>6*a.size+4+zy r
theorem sD(b:Bool):∀ks ps:List ByteArray,o5 (eY b ks ps)<=zy ks+o5 ps
 |[],ps=>by rw[yh];exact Nat.le_add_left _ _
 |_::_,[]=>Nat.zero_le _
 |key::ks,p::ps=>by
  have h1:=sD b ks ps
  have h2:=rC key
  show(if b=true then(dJ key++aM 58)++p else p).size+1+o5 (eY b ks ps)<=6*key.size+4+zy ks+(p.size+1+o5 ps)
  split
  ·rw[aY,aY,aW];omega
  ·omega
def gU:ByteArray:=⟨#[110,117,108,108]⟩
def Lf(k n:Int)(t:ByteArray)(ks ps:List ByteArray):ByteArray:=
 if k=0 then gU else if k=1 then Aw (n==1) else if k=2 then kI n else if k=3 then dJ t else
 if k=5 then(aM 123++fP (eY true ks ps) comma)++aM 125 else(aM 91++fP (eY false ks ps) comma)++aM 93
mutual
def bJ:V->ByteArray
 | .mk k n t ks vs=>Lf k n t ks (w9 vs)
def w9:List V->List ByteArray
 |[]=>[]
 |v::r=>bJ v::w9 r
end
theorem AJ:∀l:List V,w9 l=l.map bJ
 |[]=>by rw[w9];rfl
 |v::r=>by rw[w9,AJ r];rfl
theorem fF(k n:Int)(t:ByteArray)(ks:List ByteArray)(vs:List V):bJ (.mk k n t ks vs)=Lf k n t ks (vs.map bJ):=by rw[bJ,AJ]
mutual
def qz:V->Nat
 | .mk _ _ t ks vs=>30+6*t.size+zy ks+fD vs
def fD:List V->Nat
 |[]=>0
 |v::r=>qz v+1+fD r
end
theorem kL(k n:Int)(t:ByteArray)(ks:List ByteArray)(vs:List V):qz (.mk k n t ks vs)=30+6*t.size+zy ks+fD vs:=by rw[qz]
theorem AL:∀{vs:List V} {x:V},x∈vs->qz x<fD vs+1
 |v::r,x,h=>by
  rw[fD]
  rcases List.mem_cons.1 h with rfl|h
  ·omega
  ·have:=AL h;omega
theorem JI:∀(ks:List ByteArray) (i:Nat) (h:i<ks.length),ks[i].size<=zy ks
 |a::r,0,_=>by show a.size<=6*a.size+4+zy r;omega
 |a::r,k+1,h=>by have:=JI r k (by simpa using h);show(r[k]'(by simpa using h)).size<=6*a.size+4+zy r;omega
inductive iZ:V->Prop
 |mk (k n:Int) (t:ByteArray) (ks:List ByteArray) (vs:List V) (h0: -9223372036854775808<=n) (h1:n<=9223372036854775807) (h:∀x∈vs,iZ x):iZ (.mk k n t ks vs)
theorem ET:∀vs:List V,(∀x∈vs,(bJ x).size<=qz x)->o5 (vs.map bJ)<=fD vs
 |[],_=>Nat.zero_le _
 |v::r,h=>by
  have h1:=ET r (λx hx=>h x (List.mem_cons_of_mem _ hx))
  have h2:=h v (List.mem_cons_self ..)
  rw[fD]
  show(bJ v).size+1+o5 (r.map bJ)<=_
  omega
theorem G8(b:Bool):(Aw b).size<=5:=by cases b<;>decide
theorem G9{x:V}(hn:iZ x):(bJ x).size<=qz x:=by
 induction hn with
 |mk k n t ks vs h0 h1 h ih=>
  have h2:=ET vs ih
  have h3:=sD true ks (vs.map bJ)
  have h4:=sD false ks (vs.map bJ)
  have h5:=qy (eY true ks (vs.map bJ))
  have h6:=qy (eY false ks (vs.map bJ))
  have h7:=rC t
  have h8:=CE n h0 h1
  have h9:=G8 (n==1)
  have h10:gU.size=4:=rfl
  rw[fF,kL]
  unfold Lf
  (repeat' split)<;>(try simp only[aY,aW])<;>omega
structure Pr(x:V):Prop where
 fits:Fits x
 num:iZ x
 wt:qz x<=1000000000
theorem Pr.kid{k n:Int}{t:ByteArray}{ks:List ByteArray}{vs:List V}(h:Pr (.mk k n t ks vs)){x:V}(hx:x∈vs):Pr x:=by
 have h1:=h.fits;have h2:=h.num;have h3:=h.wt
 rw[kL] at h3
 have h4:=AL hx
 cases h1 with|mk _ _ _ _ _ a b c=>cases h2 with|mk _ _ _ _ _ d e f=>exact⟨c x hx,f x hx,by omega⟩
def ik(c:Int):Bool:=c==32||c==9||c==10||c==13
def aC(s:ByteArray)(p:Nat):Nat:=if h:p<s.size then(if ik (aO s (p:Int))=true then aC s (p+1) else p) else p
termination_by s.size-p
def AO(c:Int):Bool:=decide (48<=c)&&decide (c<=57)
def aT(s:ByteArray)(p:Nat):Nat:=if h:p<s.size then(if AO (aO s (p:Int))=true then aT s (p+1)+1 else 0) else 0
termination_by s.size-p
def jo(s:ByteArray)(p:Nat):Nat->Int
 |0=>0
 |k+1=>10*jo s p k+(aO s ((p+k:Nat):Int)-48)
inductive PR where
 |err (e:Int) (p:Nat)
 |ok (p:Nat) (v:V)
def rG(s:ByteArray)(p a:Nat):PR:=
 if aT s a=0\/(aO s (a:Int)=48/\(1<aT s a\/p<a)) then .err 11 p
 else if (a+aT s a<s.size/\(aO s ((a+aT s a:Nat):Int)=46\/aO s ((a+aT s a:Nat):Int)=101\/aO s ((a+aT s a:Nat):Int)=69))\/16<aT s a then .err 13 p
 else if 9007199254740991<jo s a (aT s a) then .err 13 p
 else .ok (a+aT s a) (qO (if p<a then-jo s a (aT s a) else jo s a (aT s a)))
def ko(s:ByteArray)(p:Nat):PR:=rG s p (if bT s p 45=true then p+1 else p)
def ed(c:Int):Int:=if 48<=c/\c<=57 then c-48 else if 97<=c/\c<=102 then c-87 else if 65<=c/\c<=70 then c-55 else-1
def aR(u:ByteArray)(p:Nat):Int:=
 if p+6<=u.size/\aO u (p:Int)=92/\aO u ((p+1:Nat):Int)=117 then
  (if ed (aO u ((p+2:Nat):Int))<0\/ed (aO u ((p+3:Nat):Int))<0\/ed (aO u ((p+4:Nat):Int))<0\/ed (aO u ((p+5:Nat):Int))<0 then-1
  else 4096*ed (aO u ((p+2:Nat):Int))+256*ed (aO u ((p+3:Nat):Int))+16*ed (aO u ((p+4:Nat):Int))+ed (aO u ((p+5:Nat):Int)))
 else-1
def bF(r:Int):ByteArray:=
 if r<128 then aM r
 else if r<2048 then aM (192+r/64)++aM (128+r % 64)
 else if r<65536 then aM (224+r/4096)++aM (128+r/64 % 64)++aM (128+r % 64)
 else aM (240+r/262144)++aM (128+r/4096 % 64)++aM (128+r/64 % 64)++aM (128+r % 64)
def eH(c:Int):Int:=if c=34\/c=92\/c=47 then c else if c=98 then 8 else if c=102 then 12 else if c=110 then 10 else if c=114 then 13 else if c=116 then 9 else-1
def jy(u:ByteArray)(p:Nat):Option (Int×Nat):=
 if p+1<u.size/\0<=eH (aO u ((p+1:Nat):Int)) then some (eH (aO u ((p+1:Nat):Int)),2)
 else if aR u p<0\/(56320<=aR u p/\aR u p<=57343) then none
 else if aR u p<55296\/57343<aR u p then some (aR u p,6)
 else if aR u (p+6)<56320\/57343<aR u (p+6) then none
 else some (65536+1024*(aR u p-55296)+aR u (p+6)-56320,12)
def jA(u:ByteArray)(p:Nat)(out:ByteArray):Option (ByteArray×Nat):=
 if h:p<u.size then
  (if aO u (p:Int)=34 then some (out,p+1)
  else if aO u (p:Int)=92 then
   (match jy u p with
   |none=>none
   |some (r,n)=>if h2:0<n then jA u (p+n) (out++bF r) else none)
  else if h3:0<fA (u.extract p u.size)/\32<=aO u (p:Int) then jA u (p+(fA (u.extract p u.size)).toNat) (out++u.extract p (p+(fA (u.extract p u.size)).toNat)) else none)
 else none
termination_by u.size-p
def gV(u:ByteArray):Option (ByteArray×Nat):=if u.size=0\/¬aO u 0=34 then none else jA u 1 ⟨#[]⟩
def preB(s:ByteArray)(p:Nat)(w:ByteArray):Bool:=decide (p+w.size<=s.size)&&(s.extract p (p+w.size)).toList==w.toList
def iH:ByteArray:=⟨#[116,114,117,101]⟩
def fI:ByteArray:=⟨#[102,97,108,115,101]⟩
def eG(s:ByteArray)(p:Nat):PR:=if preB s p gU=true then .ok (p+4) zeroV else if preB s p iH=true then .ok (p+4) (.mk 1 1 ⟨#[]⟩ [] []) else if preB s p fI=true then .ok (p+5) (.mk 1 0 ⟨#[]⟩ [] []) else .err 11 p
def JJ(v u:V):V:=.mk v.k v.n v.t v.ks (v.vs++[u])
def jY(ob:Bool):Int:=if ob=true then 125 else 93
def qP(ob:Bool):V:=.mk (if ob=true then 5 else 4) 0 ⟨#[]⟩ [] []
mutual
def fQ(s:ByteArray):Nat->Nat->Nat->PR
 |0,_,_=> .err 0 0
 |f+1,p,d=>
  if bT s p 91=true\/bT s p 123=true then(if 32<=d then .err 12 p else gJ s f p (d+1) (bT s p 123))
  else if bT s p 34=true then
   (match gV (s.extract p s.size) with
   |none=> .err 11 p
   |some (t,n)=> .ok (p+n) (BP t))
  else if bT s p 45=true\/0<aT s p then ko s p
  else eG s p
def gJ(s:ByteArray):Nat->Nat->Nat->Bool->PR
 |0,_,_,_=> .err 0 0
 |f+1,p,d,ob=>if bT s (aC s (p+1)) (jY ob)=true then .ok (aC s (p+1)+1) (qP ob) else dP s f (aC s (p+1)) d ob (qP ob)
def dP(s:ByteArray):Nat->Nat->Nat->Bool->V->PR
 |0,_,_,_,_=> .err 0 0
 |f+1,p,d,ob,v=>
  match (if ob=true then gM s f p d v else(match fQ s f p d with| .err e q=> .err e q| .ok q u=> .ok q (JJ v u))) with
  | .err e q=> .err e q
  | .ok q v'=>if bT s (aC s q) (jY ob)=true then .ok (aC s q+1) v' else if bT s (aC s q) 44=true then dP s f (aC s (aC s q+1)) d ob v' else .err 11 (aC s q)
def gM(s:ByteArray):Nat->Nat->Nat->V->PR
 |0,_,_,_=> .err 0 0
 |f+1,p,d,v=>
  match gV (s.extract p s.size) with
  |none=> .err 11 p
  |some (key,n)=>
   if (gL v key).2=true then .err 14 p
   else if bT s (aC s (p+n)) 58=true then
    (match fQ s f (aC s (aC s (p+n)+1)) d with
    | .err e q=> .err e q
    | .ok q u=> .ok q (dE v key u))
   else .err 11 (aC s (p+n))
end
def eT(s:ByteArray):V×Int×Int:=
 if 65536<s.size then(zeroV,3,0)
 else if 0<=nu s then(zeroV,10,nu s)
 else match fQ s (4*s.size+8) (aC s 0) 0 with
 | .err e p=>(zeroV,e,p)
 | .ok p v=>if aC s p<s.size then(zeroV,11,aC s p) else(v,0,0)
end Go.Proofs.YtbooeongacgnbaaGreatDoor
end
section
namespace Go.gW
open Go Go.RowKit
section
variable [Rd]
def Yg(P:Program)(t:TypeId):Option (Nat×Nat×Nat):=
 match P.underlying t with
 |some (.array n e)=>(P.info? e).map λi=>(n,e,i.size)
 |_=>none
theorem Oj{P:Program}{t n e s:Nat}(h:Yg P t=some (n,e,s)):P.underlying t=some (.array n e)/\∃i,P.info? e=some i/\i.size=s:=by
 unfold Yg at h
 split at h
 ·rename_i n' e' hu
  obtain⟨i,hi,hx⟩:=Option.map_eq_some_iff.1 h
  cases hx
  exact⟨hu,i,hi,rfl⟩
 ·cases h
section
variable {P:Program} {n:Nat} {ops:Array Oper} {T:Sl} {H H0:Hp} {o:Oper} {K:AV->Hp->Prop} {l:List (Nat×AV)} {M:List (Nat×Ob)} {x y:Operand} {dst:Option Nat} {ty t:TypeId} {ps:String} {af:Array Edge} {u:AV} {ki:IntKind} {i:Int}
theorem Does.EU{len e s id off:Nat}(hg:o.guard=none)(ho:o.op=.indexAddr t x y)(ht:Yg P t=some (len,e,s))(hx:ev T x=.ptr id off)(hy:ev T y=.v (.int ki i))(h0:0<=i)(h1:i<len)(hk:K (.ptr id (off+i.toNat*s)) H):Does P n ops o T H K:=by
 refine Does.val _ hg (λa w ρ hh hr=>?_) hk
 have h3:=hr x
 have h4:=hr y
 rw[hx] at h3
 rw[hy] at h4
 obtain⟨hu,inf,hi,hs⟩:=Oj ht
 generalize nD:a.eval x=xx at h3
 cases h3 with
 |ptr _ _ g x' hv hx'=>
  have hsz:(sizeOf e).run P w=.ok s w:=by simp[sizeOf,typeInfo,hi,hs,go_sem]
  refine⟨.pointer (some ⟨g,off+i.toNat*s,none⟩),?_,.ptr id _ g x' hv hx'⟩
  unfold execOp
  rw[ho]
  simp only[nD,aP h4]
  have he:P.elem t=e:=by simp[Program.elem,hu]
  have hl:P.arrayLen t=len:=by simp[Program.arrayLen,hu]
  have this:=run_indexAt_array (P:=P) (w:=w) t ⟨g,off,none⟩ ki i (by rw[hl,he];exact hu)
  rw[hl,he,if_pos ⟨h0,h1⟩,hsz] at this
  simp only[Sem.run_bind,this,Result.andThen_ok,Sem.run_pure,add_plain]
theorem Z.iar{len e s id off:Nat}(ht:Yg P t=some (len,e,s))(hx:bA l x=some (.ptr id off))(hy:bA l y=some (.v (.int ki i)))(h0:0<=i)(h1:i<len):QS P n ops H0 ⟨dst,.indexAddr t x y,ty,ps,af,none⟩ l M (.ptr id (off+i.toNat*s)):=λ_=>Does.EU U U ht (aJ hx) (aJ hy) h0 h1 ⟨rfl,rfl⟩
end
end
section
variable [Rd]
section
variable {P:Program} {n:Nat} {ops:Array Oper} {T:Sl} {H H0:Hp} {o:Oper} {K:AV->Hp->Prop} {l:List (Nat×AV)} {M:List (Nat×Ob)} {x y:Operand} {dst:Option Nat} {ty t t2:TypeId} {ps:String} {af:Array Edge} {u:AV}
theorem D.PT{m off e sz:Nat}{bb:Bool}{rows rws:List (List AV)}{cells:List AV}{id:Nat}{K:AV->List (Nat×Ob)->Prop}(k:Nat)(ht:eQ P t=some (bb,sz))(hx:bA l x=some (.ptr id off))(h2:M[k]? =some (id,.row e sz rows))(hoff:off=m*sz)(hi:m<rows.length)(hy:bA l y=some u)(hf:mr u=some cells)(hc:cells.all cK=true)(hl:cells.length=sz)(hrows:∀cs∈rows,cs.length=sz)(hw:rows.set m cells=rws)
 (hk:∀u,K u (M.set k (id,.row e sz rws))) (hz:0<sz:=by decide):DS P n ops H0 ⟨dst,.store t x y,ty,ps,af,none⟩ l M K:=by
 subst hw
 exact D.str k ht hx h2 hoff hi hy hf hc hl hrows hk hz
end
end
end Go.gW
end
section
namespace Go.gW
open Go Go.MapKept Go.RowKit
section
variable [Rd]
def JK(P:Program)(t:TypeId):Option Nat:=
 match P.underlying t with
 |some (.map k e)=>match P.underlying k with
  |some .string=>some e
  |_=>none
 |_=>none
theorem CU{P:Program}{t e:Nat}(h:JK P t=some e):∃k,P.underlying t=some (.map k e)/\P.underlying k=some .string:=by
 unfold JK at h
 split at h
 ·rename_i k e' hu
  split at h
  ·rename_i hk;cases h;exact⟨k,hu,hk⟩
  ·cases h
 ·cases h
def xc:List (ByteArray×AV)->ByteArray->Option AV
 |[],_=>none
 |(k,u)::r,s=>if s=k then some u else xc r s
theorem AP(s:ByteArray):∀(es:List (ByteArray×AV)) (l:List MapEntry) (i:Nat),l.map (·.key)=es.map (λe=>Value.string e.1)->
 (xc es s=none->Instr.findNow .string (.string s) l i=some none)/\(∀u,xc es s=some u->∃(j:Nat) (v:Value),Instr.findNow .string (.string s) l i=some (some (i+j,v))/\(l.map (·.val))[j]? =some v/\(es.map (·.2))[j]? =some u)
 |[],[],i,_=>⟨λ_=>rfl,λu h=>by cases h⟩
 |[],_::_,i,h=>by cases h
 |_::_,[],i,h=>by cases h
 |(k,u0)::r,e::l,i,h=>by
  simp only[List.map_cons,List.cons.injEq] at h
  obtain⟨h1,h2⟩:=h
  obtain⟨a,b⟩:=AP s r l (i+1) h2
  by_cases hs:s=k
  ·subst hs
   refine⟨λhh=>by simp[xc] at hh,λu hh=>⟨0,e.val,?_,rfl,?_⟩⟩
   ·have hss:(s==s)=true:=(bytes_beq s s).2 U
    simp only[Instr.findNow,h1,Instr.sameNow,hss,Nat.add_zero]
   ·simp[xc] at hh
    simp[hh]
  ·have hne:(s==k)=false:=by
    cases hb:(s==k) with
    |false=>rfl
    |true=>exact absurd ((bytes_beq s k).1 hb) hs
   constructor
   ·intro hh
    simp only[xc,if_neg hs] at hh
    simp[Instr.findNow,h1,Instr.sameNow,hne,a hh]
   ·intro u hh
    simp only[xc,if_neg hs] at hh
    obtain⟨j,v,h3,h4,h5⟩:=b u hh
    refine⟨j+1,v,?_,by simpa using h4,by simpa using h5⟩
    simp[Instr.findNow,h1,Instr.sameNow,hne,h3]
    omega
section
variable {P:Program} {n:Nat} {ops:Array Oper} {T:Sl} {H H0:Hp} {o:Oper} {K:AV->Hp->Prop} {l:List (Nat×AV)} {M:List (Nat×Ob)} {x y z:Operand} {dst:Option Nat} {ty t:TypeId} {ps:String} {af:Array Edge} {u:AV} {es:List (ByteArray×AV)} {id:Nat} {s:ByteArray}
theorem Does.makeMap(hg:o.guard=none)(ho:o.op=.makeMap t none)(hk:∀id,H id=none->K (.mpr id) (set H id (some (.mp [])))):Does P n ops o T H K:=by
 refine Does.zJ hg λa w ρ h hr=>?_
 have hex:(execOp a.eval o).run P w=.ok (.value (.map (some w.heap.size))) (w.alloc (.map #[] 0)):=by
  unfold execOp
  rw[ho]
  simp only[Option.map_none,Sem.run_bind,run_makeMap,Result.andThen_ok,Sem.run_pure]
 refine⟨_,_,_,.mp [],hex,iF _ _,?_,λρ' H' e'=>⟨w.heap.size, #[],0,rfl,heap_alloc_new w _,rfl,⟨rfl,λj u x h=>by simp at h⟩,λi e h=>by simp at h,rfl⟩,λid hid=>⟨.mpr id,λok' ρ' h'=> .mpr id _ h',hk id hid⟩⟩
 intro k hk;cases hk;rw[size_alloc];simp
theorem Ol{ρ:fK}{w:World}{v:Value}(h:dG ρ H w)(h2:H id=some (.mp es))(hx:dL (bK ρ H) ρ w (.mpr id) v):
 ∃g l rR,v=.map (some g)/\ρ id=some (.map (some g))/\w.heap[g]? =some (.map l rR)/\l.toList.map (·.key)=es.map (λe=>Value.string e.1)/\pz (bK ρ H) ρ w (es.map (·.2)) (l.toList.map (·.val))/\Nt l rR:=by
 obtain⟨v0,hv0,g,l,rR,rfl,hg,h3,h4,h5⟩:=h.ob _ _ h2
 cases hx with
 |mpr _ g' hr=>rw[hv0] at hr;cases hr;exact⟨g,l,rR,rfl,hv0,hg,h3,h4,h5⟩
theorem Does.insert{e:Nat}(hg:o.guard=none)(ho:o.op=.insert t x y z\/o.op=.mapUpdate t x y z)(ht:JK P t=some e)(hx:ev T x=.mpr id)(h2:H id=some (.mp es))(hy:ev T y=.v (.string s))(hz:ev T z=u)(hn:xc es s=none)
 (hk:K .any (set H id (some (.mp (es++[(s,u)]))))):Does P n ops o T H K:=by
 intro a w ρ h1 hd h3 h4 N Q hN
 rw[if_pos (by simp[Region.wanted,hg])]
 have hr:=iA h4
 have h5:=hr x
 rw[hx] at h5
 have h6:=aP (by have:=hr y;rw[hy] at this;exact this)
 have h7:=hr z
 rw[hz] at h7
 obtain⟨kt,hu,hkt⟩:=CU ht
 obtain⟨g,l,rR,nD,hρ,hg0,hkeys,CV,ze⟩:=Ol h3 h2 h5
 have hkey:IsKey .string (.string s):=trivial
 have hf:=(AP s es l.toList 0 hkeys).1 hn
 have hex:(execOp a.eval o).run P w=.ok .skip {w with heap:=w.heap.setIfInBounds g (.map (l.push ⟨.string s,a.eval z,rR⟩) (rR+1))}:=by
  unfold execOp
  rcases ho with ho|ho<;>rw[ho]<;>
  simp[nD,h6,Instr.mapUpdate,run_underlying hu,Go.MapKept.run_getObj_map hg0,run_checkKey hkt hkey,run_findKey hkt hf,Go.MapKept.run_setObj_map _ hg0,Result.andThen]
 obtain⟨hs1,hs2⟩:=heap_set (o':=.map (l.push ⟨.string s,a.eval z,rR⟩) (rR+1)) hg0
 have hw:=h3.write (w':={w with heap:=w.heap.setIfInBounds g (.map (l.push ⟨.string s,a.eval z,rR⟩) (rR+1))}) (.mp (es++[(s,u)])) h2 hρ U U U (by simp) (λk _ hk=>hs2 k (λe=>hk (by rw[e];rfl))) (λρ' H' e' _=>⟨g,_,_,rfl,hs1,by simp[hkeys],by
  have hv1:=e'.vals CV
  have hz1:=e'.rep h7
  refine⟨by simpa using hv1.1,λj u' x' q1 q2=>?_⟩
  simp only[List.map_append,List.map_cons,List.map_nil,Array.toList_push] at q1 q2
  by_cases hj:j<(es.map (·.2)).length
  ·rw[List.getElem?_append_left hj] at q1
   rw[List.getElem?_append_left (by rw[<-hv1.1];exact hj)] at q2
   exact hv1.2 j u' x' q1 q2
  ·rw[List.getElem?_append_right (by omega)] at q1
   rw[List.getElem?_append_right (by rw[<-hv1.1];omega),<-hv1.1] at q2
   generalize j-(es.map (·.2)).length=m at q1 q2
   cases m with
   |zero=>simp at q1 q2;subst q1 q2;exact hz1
   |succ m=>simp at q1,λi e he=>by
  rw[Array.getElem?_push] at he
  by_cases hi:i=l.size
  ·rw[if_pos hi] at he
   cases he
   rw[hi];exact ze.2
  ·rw[if_neg hi] at he
   exact ze.1 i e he,by rw[Array.size_push,ze.2]⟩)
 unfold Oper.wp
 rw[hex]
 exact hN undef _ ρ .any _ hw.1 hw.2 (.any _) hk
theorem D.mkm{K:AV->List (Nat×Ob)->Prop}(hk:∀id,K (.mpr id) ((id,.mp [])::M)):DS P n ops H0 ⟨dst,.makeMap t none,ty,ps,af,none⟩ l M K:=
 λaD=>Does.makeMap U U λid hid=>⟨(id,.mp [])::M,rfl,.cons hid aD,hk id⟩
theorem D.ins{e:Nat}{aL:List (Nat×Ob)}{K:AV->List (Nat×Ob)->Prop}(k:Nat)(ht:JK P t=some e)(hx:bA l x=some (.mpr id))(h2:M[k]? =some (id,.mp es))(hy:bA l y=some (.v (.string s)))(hz:bA l z=some u)(hn:xc es s=none)(jd:M.set k (id,.mp (es++[(s,u)]))=aL)(hk:∀u,K u aL):DS P n ops H0 ⟨dst,.insert t x y z,ty,ps,af,none⟩ l M K:=λaD=>by
 subst jd
 exact Does.insert U (.inl U) ht (aJ hx) (aD.at_ h2) (aJ hy) (aJ hz) hn ⟨_,(aD.kg _ h2).1,(aD.kg _ h2).2,hk _⟩
theorem Does.Mx{e mid:Nat}(hg:o.guard=none)(ho:o.op=.range t x)(ht:JK P t=some e)(hx:ev T x=.mpr mid)(hm:H mid=some (.mp es))
 (hk:∀id,H id=none->K (.ptr id 0) (set H id (some (.xE mid es.length [])))):Does P n ops o T H K:=by
 refine Does.zJ hg λa w ρ h hr=>?_
 have h3:=hr x
 rw[hx] at h3
 obtain⟨kt,hut,_⟩:=CU ht
 obtain⟨g,ml,rR,nD,hρ,hg0,hkeys,CV,ze⟩:=Ol h hm h3
 have hlen:rR=es.length:=by
  have:=congrArg List.length hkeys
  rw[List.length_map,List.length_map] at this
  rw[ze.2,<-this];rfl
 refine⟨.pointer (some ⟨w.heap.size,0,none⟩),.pointer (some ⟨w.heap.size,0,none⟩),w.alloc (.mapIter (some g) es.length (List.toArray []) es.length),.xE mid es.length [],?_,iF _ _,?_,λρ' H' e=>⟨_,g,rfl,e.F4 _ _ hρ,heap_alloc_new w _⟩,?_⟩
 ·unfold execOp
  rw[ho]
  simp[nD,Instr.range,run_underlying hut,Go.MapKept.run_getObj_map hg0,Result.andThen,hlen]
 ·intro k hk;cases hk;rw[size_alloc];simp
 ·intro id hid
  exact⟨.ptr id 0,λok' ρ' h=> .ptr id 0 _ _ h (.inl U),hk id hid⟩
theorem Om{ρ:fK}{w:World}{mid nn:Nat}{seen:List Nat}{v:Value}(h:dG ρ H w)(h2:H id=some (.xE mid nn seen))(hr:dL (bK ρ H) ρ w (.ptr id 0) v):
 ∃g gm,v=.pointer (some ⟨g,0,none⟩)/\ρ id=some v/\ρ mid=some (.map (some gm))/\w.heap[g]? =some (.mapIter (some gm) nn (List.toArray seen) nn):=by
 obtain⟨v',hv,g,gm,rfl,hm,hg⟩:=h.ob id _ h2
 cases hr with
 |ptr _ _ g' x' hx hx'=>
  rw[hv] at hx
  cases hx
  rcases hx' with h3|⟨_,_,h3⟩
  ·cases h3;exact⟨g,gm,rfl,hv,hm,hg⟩
  ·cases h3
theorem EW(w:World)(ty:TypeId)(g gm nn:Nat)(seen:List Nat)(ml:Array MapEntry)(hg:w.heap[g]? =some (.mapIter (some gm) nn (List.toArray seen) nn))(hm:w.heap[gm]? =some (.map ml nn))(hok:Nt ml nn):
 ((∀i,i<nn->i∈seen)/\(Instr.next (.pointer (some ⟨g,0,none⟩)) false ty).run P w=.ok (.tuple #[.bool false]) w)\/
 ∃i e w1,i∉seen/\ml[i]? =some e/\(w1=w\/w1=w.drew)/\(Instr.next (.pointer (some ⟨g,0,none⟩)) false ty).run P w=.ok (.tuple #[.bool true,e.key,e.val]) {w1 with heap:=w.heap.setIfInBounds g (.mapIter (some gm) nn (List.toArray (seen++[i])) nn)}:=by
 have hborn:∀x∈ml,x.born<nn:=λx hx=>by
  obtain⟨i,hi,rfl⟩:=Array.mem_iff_getElem.1 hx
  have:=hok.1 i _ (Array.getElem?_eq_getElem hi)
  rw[this,hok.2];exact hi
 have Xl:(!(List.toArray seen).isEmpty&&!ml.isEmpty&&ml.all (λx=>decide (x.born>=nn)))=false:=by
  by_cases h0:ml.size=0
  ·rw[Array.eq_empty_of_size_eq_zero h0];simp
  ·have:ml.all (λx=>decide (x.born>=nn))=false:=by
    rw[Bool.eq_false_iff]
    intro h
    rw[Array.all_eq_true_iff_forall_mem] at h
    have h1:=h _ (Array.getElem_mem (by omega:0<ml.size))
    have h2:=hborn _ (Array.getElem_mem (by omega:0<ml.size))
    simp at h1
    omega
   rw[this,Bool.and_false]
 simp only[Instr.next,getObj,Sem.run_bind,Sem.run,hg,hm,Result.andThen,Xl,Bool.false_eq_true,if_false]
 have hmem:∀x∈ml.filter (λe=>!(List.toArray seen).contains e.born),x.born<nn:=λx hx=>hborn x (Array.mem_filter.1 hx).1
 have hin:∀x,x∈ml.filter (λe=>!(List.toArray seen).contains e.born)↔x∈ml/\x.born∉seen:=λx=>by rw[Array.mem_filter];simp
 generalize ml.filter (λe=>!(List.toArray seen).contains e.born)=L at hmem hin⊢
 have e1:L.filter (λx=>decide (x.born<nn))=L:=Array.filter_eq_self.2 (λx hx=>by simpa using hmem x hx)
 have e2:L.filter (λx=>decide (x.born>=nn))= #[]:=by
  rw[Array.filter_eq_empty_iff]
  intro x hx
  have:=hmem x hx
  simp
  omega
 simp only[e1,e2,Array.append_empty]
 by_cases h0:L.size=0
 ·refine .inl ⟨λi hi=>?_,?_⟩
  ·by_cases hs:i∈seen
   ·exact hs
   ·have hil:i<ml.size:=by rw[<-hok.2];exact hi
    have h1:=hok.1 i _ (Array.getElem?_eq_getElem hil)
    have h2:ml[i]∈L:=(hin _).2 ⟨Array.getElem_mem hil,by rw[h1];exact hs⟩
    rw[Array.eq_empty_of_size_eq_zero h0] at h2
    simp at h2
  ·rw[Array.eq_empty_of_size_eq_zero h0]
   simp[choose,Sem.run,Question.forced]
 ·have hne:L.isEmpty=false:=by simp[Array.isEmpty,h0]
  simp only[hne,Bool.false_eq_true,if_false,Array.empty_append,Array.size_map]
  have hch:∃(j:Nat) (w1:World),j<L.size/\(w1=w\/w1=w.drew)/\(choose (Question.mapNext L.size)).run P w=.ok j w1:=by
   by_cases hf:L.size<=1
   ·exact⟨0,w,by omega,.inl U,by simp[choose,Sem.run,Question.forced,hf]⟩
   ·exact⟨_,w.drew,Nat.mod_lt _ (by omega),.inr U,by
     simp only[choose,Sem.run,Question.forced,decide_eq_true_eq,hf,if_false,Question.cut]
     rfl⟩
  obtain⟨j,w1,hj,hw1,hrun⟩:=hch
  obtain⟨hx1,hx2⟩:=(hin _).1 (Array.getElem_mem hj)
  obtain⟨i,hi,he⟩:=Array.mem_iff_getElem.1 hx1
  have hb:=hok.1 i _ (Array.getElem?_eq_getElem hi)
  rw[he] at hb
  refine .inr ⟨i,L[j],w1,by rw[<-hb];exact hx2,by rw[<-he];exact Array.getElem?_eq_getElem hi,hw1,?_⟩
  have hh:w1.heap=w.heap:=by rcases hw1 with rfl|rfl<;>rfl
  have hg1:w1.heap[g]? =some (.mapIter (some gm) nn (List.toArray seen) nn):=by rw[hh];exact hg
  have hp:(List.toArray seen).push L[j].born=List.toArray (seen++[i]):=by rw[hb];simp
  simp only[hrun,Array.getElem?_map,Array.getElem?_eq_getElem hj,Option.map_some,Sem.run_bind,setObj,Sem.run,hg1,Result.andThen,hp]
  rw[<-hh]
  rfl
theorem Does.Oo{mid nn:Nat}{seen:List Nat}(hg:o.guard=none)(ho:o.op=.next x false)(hx:ev T x=.ptr id 0)(h2:H id=some (.xE mid nn seen))(hm:H mid=some (.mp es))(hn:es.length=nn)
 (hk0:(∀i,i<nn->i∈seen)->K (.dH [.v (.bool false)]) H)
 (hk1:∀i s u,i∉seen->es[i]? =some (s,u)->K (.dH [.v (.bool true),.v (.string s),u]) (set H id (some (.xE mid nn (seen++[i]))))):Does P n ops o T H K:=by
 intro a w ρ h1 hd h3 h4 N Q hN
 rw[if_pos (by simp[Region.wanted,hg])]
 have hr:=iA h4
 have h5:=hr x
 rw[hx] at h5
 obtain⟨g,gm,nD,hρ,Qv,hgg⟩:=Om h3 h2 h5
 obtain⟨_,Xm,gm',ml,rR,rfl,hgm,hkeys,CV,ze⟩:=h3.ob mid _ hm
 rw[Qv] at Xm
 cases Xm
 have hlen:ml.size=es.length:=by
  have:=congrArg List.length hkeys
  rw[List.length_map,List.length_map] at this
  exact this
 have UZ:rR=nn:=by rw[ze.2,hlen,hn]
 subst UZ
 rcases EW (P:=P) w o.type g gm rR seen ml hgg hgm ze with ⟨hall,hrun⟩|⟨i,e,w1,hi,hie,hw1,hrun⟩
 ·have hex:(execOp a.eval o).run P w=.ok (.value (.tuple #[.bool false])) w:=by
   unfold execOp
   rw[ho]
   simp only[nD,Sem.run_bind,hrun,Result.andThen_ok,Sem.run_pure]
  unfold Oper.wp
  rw[hex]
  exact hN _ _ ρ _ _ h3 (Ext.refl _ _ _) (.dH _ [.bool false] U (λj u y h6 h7=>by
   match j with
   |0=>simp at h6 h7;subst h6 h7;exact .v _
   |j+1=>simp at h6)) (hk0 hall)
 ·have hil:i<ml.size:=(Array.getElem?_eq_some_iff.1 hie).1
  obtain⟨⟨s,u⟩,hes⟩:∃p,es[i]'(by omega)=p:=⟨_,rfl⟩
  have hes':es[i]? =some (s,u):=by rw[List.getElem?_eq_getElem (by omega),hes]
  have hkey:e.key=.string s:=by
   have:=congrArg (λl=>l[i]?) hkeys
   simp only[List.getElem?_map,hes',Option.map_some] at this
   rw[Array.getElem?_toList,hie] at this
   simpa using this
  have hval:=CV.2 i u e.val (by simp[List.getElem?_map,hes']) (by simp[List.getElem?_map,hie])
  have hex:(execOp a.eval o).run P w=.ok (.value (.tuple #[.bool true,.string s,e.val])) {w1 with heap:=w.heap.setIfInBounds g (.mapIter (some gm) rR (List.toArray (seen++[i])) rR)}:=by
   unfold execOp
   rw[ho]
   simp only[nD,Sem.run_bind,hrun,Result.andThen_ok,Sem.run_pure,hkey]
  have hos:w1.os=w.os/\w1.tape=w.tape/\w1.output=w.output:=by rcases hw1 with rfl|rfl<;>exact⟨rfl,rfl,rfl⟩
  have hlt':g<w.heap.size:=(Array.getElem?_eq_some_iff.1 hgg).1
  rw[nD] at hρ
  unfold Oper.wp
  rw[hex]
  have:=h3.write (w':={w1 with heap:=w.heap.setIfInBounds g (.mapIter (some gm) rR (List.toArray (seen++[i])) rR)}) (.xE mid rR (seen++[i])) h2 hρ hos.1 hos.2.1 hos.2.2 (by simp) (λk _ hk=>by
   have:g≠k:=λe=>hk (by rw[e];rfl)
   simp[Array.getElem?_setIfInBounds,this]) (λρ' H' e' _=>⟨g,gm,rfl,e'.F4 _ _ Qv,by simp[Array.getElem?_setIfInBounds,hlt']⟩)
  refine hN _ _ ρ _ _ this.1 this.2 ?_ (hk1 i s u hi hes')
  exact .dH _ [.bool true,.string s,e.val] U (λj u' y h6 h7=>by
   match j with
   |0=>simp at h6 h7;subst h6 h7;exact .v _
   |1=>simp at h6 h7;subst h6 h7;exact .v _
   |2=>simp at h6 h7;subst h6 h7;exact this.2.rep hval
   |j+3=>simp at h6)
theorem Does.MB{mid nn:Nat}{seen:List Nat}{i:Nat}(hg:o.guard=none)(ho:o.op=.entry x)(hx:ev T x=.ptr id 0)(h2:H id=some (.xE mid nn (seen++[i])))(hm:H mid=some (.mp es))(hn:es.length=nn)(hi:es[i]? =some (s,u))(hk:K (.dH [.v (.string s),u]) H):Does P n ops o T H K:=by
 refine Does.val _ hg (λa w ρ h3 hr=>?_) hk
 have h5:=hr x
 rw[hx] at h5
 obtain⟨g,gm,nD,hρ,Qv,hgg⟩:=Om h3 h2 h5
 obtain⟨_,Xm,gm',ml,rR,rfl,hgm,hkeys,CV,ze⟩:=h3.ob mid _ hm
 rw[Qv] at Xm
 cases Xm
 have hlen:ml.size=es.length:=by
  have:=congrArg List.length hkeys
  rw[List.length_map,List.length_map] at this
  exact this
 have UZ:rR=nn:=by rw[ze.2,hlen,hn]
 subst UZ
 have hil:i<ml.size:=by rw[hlen];exact(List.getElem?_eq_some_iff.1 hi).1
 have hie:ml[i]? =some ml[i]:=Array.getElem?_eq_getElem hil
 have hkey:ml[i].key=.string s:=by
  have:=congrArg (λl=>l[i]?) hkeys
  simp only[List.getElem?_map,hi,Option.map_some] at this
  rw[Array.getElem?_toList,hie] at this
  simpa using this
 have hval:=CV.2 i u ml[i].val (by simp[List.getElem?_map,hi]) (by simp[List.getElem?_map,hie])
 have hfind:ml.find? (λe=>e.born==i)=some ml[i]:=by
  rw[Array.find?_eq_some_iff_getElem]
  refine⟨by simp[ze.1 i _ hie],i,hil,rfl,λj hj=>?_⟩
  have:=ze.1 j _ (Array.getElem?_eq_getElem (by omega))
  simp[this];omega
 refine⟨.tuple #[.string s,ml[i].val],?_,.dH _ [.string s,ml[i].val] U (λj u' y h6 h7=>?_)⟩
 ·unfold execOp
  rw[ho]
  have hb:(List.toArray (seen++[i])).back? =some i:=by simp
  simp only[nD,Instr.entry,getObj,Sem.run_bind,Sem.run,hgg,hgm,Result.andThen,hb,bne_self_eq_false,Bool.false_eq_true,if_false,hfind,hkey]
  rfl
 ·match j with
  |0=>simp at h6 h7;subst h6 h7;exact .v _
  |1=>simp at h6 h7;subst h6 h7;exact hval
  |j+2=>simp at h6
theorem D.YW{e mid:Nat}{K:AV->List (Nat×Ob)->Prop}(k:Nat)(ht:JK P t=some e)(hx:bA l x=some (.mpr mid))(h2:M[k]? =some (mid,.mp es))(hk:∀id,K (.ptr id 0) ((id,.xE mid es.length [])::M)):DS P n ops H0 ⟨dst,.range t x,ty,ps,af,none⟩ l M K:=
 λaD=>Does.Mx U U ht (aJ hx) (aD.at_ h2) λid hid=>⟨(id,.xE mid es.length [])::M,rfl,.cons hid aD,hk id⟩
theorem D.YX{mid nn:Nat}{seen:List Nat}{K:AV->List (Nat×Ob)->Prop}(k km:Nat)(hx:bA l x=some (.ptr id 0))(h2:M[k]? =some (id,.xE mid nn seen))(hm:M[km]? =some (mid,.mp es))(hn:es.length=nn)
 (hk0:(∀i,i<nn->i∈seen)->K (.dH [.v (.bool false)]) M) (hk1:∀i s u,i∉seen->es[i]? =some (s,u)->K (.dH [.v (.bool true),.v (.string s),u]) (M.set k (id,.xE mid nn (seen++[i])))):DS P n ops H0 ⟨dst,.next x false,ty,ps,af,none⟩ l M K:=λaD=>
 Does.Oo U U (aJ hx) (aD.at_ h2) (aD.at_ hm) hn (λh=>⟨_,rfl,aD,hk0 h⟩) λi s u hi he=>⟨_,(aD.kg _ h2).1,(aD.kg _ h2).2,hk1 i s u hi he⟩
theorem Z.YY{mid nn i:Nat}{seen:List Nat}(k km:Nat)(hx:bA l x=some (.ptr id 0))(h2:M[k]? =some (id,.xE mid nn (seen++[i])))(hm:M[km]? =some (mid,.mp es))(hn:es.length=nn)(hi:es[i]? =some (s,u)):QS P n ops H0 ⟨dst,.entry x,ty,ps,af,none⟩ l M (.dH [.v (.string s),u]):=λaD=>Does.MB U U (aJ hx) (aD.at_ h2) (aD.at_ hm) hn hi ⟨rfl,rfl⟩
end
end
end Go.gW
end
