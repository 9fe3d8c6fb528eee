/- A part of the proof. -/
import Derived.Test.YtbooeongacgnbaaGreatDoorMw10
import Derived.Test.YtbooeongacgnbaaGreatDoorMw07
set_option maxRecDepth 100000
set_option maxHeartbeats 4000000
set_option linter.unusedSectionVars false
set_option linter.unusedVariables false
set_option linter.unusedSimpArgs false
section
namespace Go.Proofs.YtbooeongacgnbaaGreatDoor
open Go Go.gW Go.RowKit
def BP(s:ByteArray):V:=.mk 3 0 s [] []
theorem GI(s:ByteArray)(H:Hp):F Tryz.prog 82 [.v (.string s)] H (bn H (.agg (aN (BP s)))):=by
 refine aA (n:=5) (H0:=H) (M:=[]) Tryz.func82 (by kernel_rfl) U (by rw[Tryz.ntmps82];rfl) .nil<|?_
 refine Q.rg<|US.zX U (by decide) U U z27 U U U U λp2=>Q.nt<|Q.rg<|Q.mv U<|US.D8 [0,2] U (by decide) U U dh U U U U U U U U<|US.kW U U U ay U (k:=0) U (by rfl) U U (by rfl) (by rfl) U<|?_
 refine Q.nt<|UW.ret<|?_
 exact bD [] (λhd=>di (k:=0) hd U U U bH bI) (by simp) λhd=>⟨rfl,rfl⟩
def x8{α β:Type}(f:α->β->Bool):List α->List β->Bool
 |[],[]=>true
 |a::l,b::r=>f a b&&x8 f l r
 |_,_=>false
theorem si{α β:Type}{f:α->β->Bool}:∀{l:List α} {r:List β},l.length=r.length->(∀(i:Nat) (h:i<l.length) (h':i<r.length),f l[i] r[i]=true)->x8 f l r=true
 |[],[],_,_=>rfl
 |a::l,b::r,hl,h=>by
  rw[x8,Bool.and_eq_true]
  exact⟨h 0 (by simp) (by simp),si (by simpa using hl) (λi h1 h2=>h (i+1) (by simpa using h1) (by simpa using h2))⟩
 |[],_::_,hl,_=>by simp at hl
 |_::_,[],hl,_=>by simp at hl
theorem Ai{α β:Type}{f:α->β->Bool}:∀{l:List α} {r:List β},l.length≠r.length->x8 f l r=false
 |[],[],h=>by simp at h
 |a::l,b::r,h=>by rw[x8,Ai (by simpa using h)];simp
 |[],_::_,_=>rfl
 |_::_,[],_=>rfl
theorem Em{α β:Type}{f:α->β->Bool}:∀{l:List α} {r:List β} (i:Nat) (h:i<l.length) (h':i<r.length),f l[i] r[i]=false->x8 f l r=false
 |a::l,b::r,0,_,_,hf=>by
  have:f a b=false:=hf
  rw[x8,this];rfl
 |a::l,b::r,i+1,h,h',hf=>by rw[x8,Em i (by simpa using h) (by simpa using h') (by simpa using hf)];simp
 |[],_,_,h,_,_=>by simp at h
 |_::_,[],_,_,h',_=>by simp at h'
def Jo(a b:ByteArray):Bool:=a.toList==b.toList
mutual
def nP:V->V->Bool
 | .mk k n t ks vs,.mk k' n' t' ks' vs'=>(k==k')&&((n==n')&&(Jo t t'&&(x8 Jo ks ks'&&En vs vs')))
def En:List V->List V->Bool
 |[],[]=>true
 |x::l,y::r=>nP x y&&En l r
 |[],_::_=>false
 |_::_,[]=>false
end
theorem oW:∀l r:List V,En l r=x8 nP l r
 |[],[]=>rfl
 |x::l,y::r=>by rw[En,oW l r];rfl
 |[],_::_=>rfl
 |_::_,[]=>rfl
def kv(c:Int):Int:=if c<128 then 0 else if 194<=c/\c<=223 then 1 else if 224<=c/\c<=239 then 2 else if 240<=c/\c<=244 then 3 else-1
theorem Ml(c:Int)(H:Hp):F Tryz.prog 58 [.v (.int .u8 c)] H (bn H (.v (.int .i64 (kv c)))):=by
 refine aA (n:=27) (H0:=H) (M:=[]) Tryz.func58 (by kernel_rfl) U (by rw[Tryz.ntmps58];rfl) .nil<|?_
 focus
  refine Q.rg<|Q.as U<|Q.nt<|S.sq<|UW.block<|Q.rg<|Q.mv U<|Q.bi U U U<|Q.as U<|Q.nt<|?_
  refine S.cD U (λhc3=>?_) (λhc3=>?_)
  refine Q.rg<|Q.as U<|Q.nt<|UW.ret<|UQ.az<|UQ.aj<|S.bG (λ_=>au U U)<|?_
  focus ((congr 2;unfold kv;(repeat' split)<;>rfl);done)
  refine Q.rg<|Q.mv U<|Q.bi U U U<|Q.mv U<|?_
  refine S.tD 9 (λAj=>?_) (λAj=>?_)
  refine Q.on (Z.mv U)<|Q.on (Z.bi U U U)<|Q.pk U U<|Q.as U<|Q.nt<|?_
  refine S.cD U (λhc6=>?_) (λhc6=>?_)
  refine Q.rg<|Q.as U<|Q.nt<|UW.ret<|UQ.az<|UQ.aj<|S.bG (λ_=>au U U)<|?_
  focus ((congr 2;unfold kv;(repeat' split)<;>first|rfl|omega);done)
  refine Q.rg<|Q.mv U<|Q.bi U U U<|Q.mv U<|?_
  refine S.tD 16 (λhc16=>?_) (λhc16=>?_)
  rotate_left
  omega
  rotate_right
  refine Q.on (Z.mv U)<|Q.on (Z.bi U U U)<|Q.pk U U<|Q.as U<|Q.nt<|?_
  refine S.cD U (λpY=>?_) (λpY=>?_)
  refine Q.rg<|Q.as U<|Q.nt<|UW.ret<|UQ.az<|UQ.aj<|S.bG (λ_=>au U U)<|?_
  focus ((congr 2;unfold kv;(repeat' split)<;>first|rfl|omega);done)
  refine Q.rg<|Q.mv U<|Q.bi U U U<|Q.mv U<|?_
  refine S.tD 23 (λEo=>?_) (λEo=>?_)
  rotate_left
  omega
  rotate_right
  refine Q.on (Z.mv U)<|Q.on (Z.bi U U U)<|Q.pk U U<|Q.as U<|Q.nt<|?_
  refine S.cD U (λmO=>?_) (λmO=>?_)
  refine Q.rg<|Q.as U<|Q.nt<|UW.ret<|UQ.az<|UQ.aj<|S.bG (λ_=>au U U)<|?_
  focus ((congr 2;unfold kv;(repeat' split)<;>first|rfl|omega);done)
  refine UW.skip<|UQ.aI<|UQ.then<|Q.rg<|Q.as U<|Q.nt<|UW.ret<|S.bG (λ_=>au U U)<|?_
  focus ((congr 2;unfold kv;(repeat' split)<;>first|rfl|omega);done)
  refine Q.of<|Q.of<|Q.pk U U<|Q.as U<|Q.nt<|S.cF U U<|Q.rg<|Q.mv U<|Q.bi U U U<|Q.mv U<|?_
  refine S.tD 16 (λhc16=>?_) (λhc16=>?_)
  omega
  refine Q.of<|Q.of<|Q.pk U U<|Q.as U<|Q.nt<|S.cF U U<|Q.rg<|Q.mv U<|Q.bi U U U<|Q.mv U<|?_
  refine S.tD 23 (λEo=>?_) (λEo=>?_)
  omega
  refine Q.of<|Q.of<|Q.pk U U<|Q.as U<|Q.nt<|S.cF U U<|UW.skip<|UQ.aI<|UQ.then<|Q.rg<|Q.as U<|Q.nt<|UW.ret<|S.bG (λ_=>au U U)<|?_
  focus ((congr 2;unfold kv;(repeat' split)<;>first|rfl|omega);done)
end Go.Proofs.YtbooeongacgnbaaGreatDoor
end
