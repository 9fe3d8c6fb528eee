/- A part of the proof. -/
import Derived.Test.YtonpfomjoiaacaaGreatDoorMw34
set_option maxRecDepth 100000
set_option maxHeartbeats 4000000
set_option linter.unusedSectionVars false
set_option linter.unusedVariables false
set_option linter.unusedSimpArgs false
section
namespace Go.Proofs.YtonpfomjoiaacaaGreatDoor
open Go Go.iG Go.RowKit
theorem BH(l:List V)(f:Nat)(g:V->Int)(hl:l.length<=1000000)(hc:∀x∈l,∀H,au Tryz.prog f [.agg (aC x)] H (bB H (.v (.int .i64 (g x)))))(H:Hp):
 au Tryz.prog 100 [.sl (bu l),.iF f []] H (JY H 3 1 ((l.map g).map encI)):=by
 refine aF (n:=22) (H0:=H) (I:=[]) Tryz.func100 (by kernel_rfl) U (by rw[Tryz.ntmps100];rfl) .nil<|?_
 repeat (with_reducible first|refine UW.seq ?_|refine UW.block ?_|refine UQ.then ?_|refine UQ.aB ?_|refine UW.skip ?_|refine UW.exit ?_|refine UQ.pass ?_|refine UQ.here ?_|refine UQ.out (by decide) ?_|refine UW.ret ?_|refine UQ.ax ?_|refine UQ.aI ?_|refine UW.region ?_)
 refine Q.as U<|US.nil<|?_
 repeat (with_reducible first|refine UW.seq ?_|refine UW.block ?_|refine UQ.then ?_|refine UQ.aB ?_|refine UW.skip ?_|refine UW.exit ?_|refine UQ.pass ?_|refine UQ.here ?_|refine UQ.out (by decide) ?_|refine UW.ret ?_|refine UQ.ax ?_|refine UQ.aI ?_|refine UW.region ?_)
 refine Q.as U<|US.kZ 5 3 1 (by decide) U λi0=>US.nil<|?_
 repeat (with_reducible first|refine UW.seq ?_|refine UW.block ?_|refine UQ.then ?_|refine UQ.aB ?_|refine UW.skip ?_|refine UW.exit ?_|refine UQ.pass ?_|refine UQ.here ?_|refine UQ.out (by decide) ?_|refine UW.ret ?_|refine UQ.ax ?_|refine UQ.aI ?_|refine UW.region ?_)
 refine Q.mv U<|?_
 first|refine US.gq U (by decide) U U bP U ?_|refine US.iQ U (by decide) U U bP U ?_|refine US.len_nil U (by decide) U U bP U ?_
 refine Q.mv U<|US.nil<|?_
 repeat (with_reducible first|refine UW.seq ?_|refine UW.block ?_|refine UQ.then ?_|refine UQ.aB ?_|refine UW.skip ?_|refine UW.exit ?_|refine UQ.pass ?_|refine UQ.here ?_|refine UQ.out (by decide) ?_|refine UW.ret ?_|refine UQ.ax ?_|refine UQ.aI ?_|refine UW.region ?_)
 refine UW.loop (λp:Nat×Nat=>[(10,.v (.int .i64 (p.1:Int))),(5,.own p.2 0 p.1 1),(8,.sl (bu l)),(9,.v (.int .i64 ((bu l).length:Int))),(1,.iF f [])]) (λp=>[(p.2,.row 3 1 (((l.map g).map encI).take p.1))]) (λp=>p.1<=l.length) (λp=>l.length-p.1) (0,i0) (Nat.zero_le _) ⟨rfl,rfl,rfl,rfl,rfl,trivial⟩ (.refl _)<|?_
 rintro⟨k,id⟩ hk
 simp only at hk
 have hll:=aS l
 have hgl:((l.map g).map encI).length=l.length:=by simp
 repeat (with_reducible first|refine UW.seq ?_|refine UW.block ?_|refine UQ.then ?_|refine UQ.aB ?_|refine UW.skip ?_|refine UW.exit ?_|refine UQ.pass ?_|refine UQ.here ?_|refine UQ.out (by decide) ?_|refine UW.ret ?_|refine UQ.ax ?_|refine UQ.aI ?_|refine UW.region ?_)
 refine Q.bi U U U<|US.nil<|?_
 repeat (with_reducible first|refine UW.seq ?_|refine UW.block ?_|refine UQ.then ?_|refine UQ.aB ?_|refine UW.skip ?_|refine UW.exit ?_|refine UQ.pass ?_|refine UQ.here ?_|refine UQ.out (by decide) ?_|refine UW.ret ?_|refine UQ.ax ?_|refine UQ.aI ?_|refine UW.region ?_)
 refine UW.cond U (λh=>?_) (λh=>?_)
 ·have h:=of_decide_eq_true h
  have hlt:k<l.length:=by omega
  repeat (with_reducible first|refine UW.seq ?_|refine UW.block ?_|refine UQ.then ?_|refine UQ.aB ?_|refine UW.skip ?_|refine UW.exit ?_|refine UQ.pass ?_|refine UQ.here ?_|refine UQ.out (by decide) ?_|refine UW.ret ?_|refine UQ.ax ?_|refine UQ.aI ?_|refine UW.region ?_)
  refine US.bM U (by decide) U U bP U U (by omega) (gH l k hlt) (Y _)<|?_
  first|refine US.dV U (by decide) U U av U (k:=0) U (by first|rfl|exact Y _|(simp;done)) ?_|refine US.dV U (by decide) U U av U (k:=1) U (by first|rfl|exact Y _|(simp;done)) ?_|refine US.dV U (by decide) U U av U (k:=2) U (by first|rfl|exact Y _|(simp;done)) ?_|refine US.dV U (by decide) U U av U (k:=3) U (by first|rfl|exact Y _|(simp;done)) ?_|refine US.dV U (by decide) U U av U (k:=4) U (by first|rfl|exact Y _|(simp;done)) ?_|refine US.dV U (by decide) U U av U (k:=5) U (by first|rfl|exact Y _|(simp;done)) ?_|refine US.nz U (by decide) U U av U (k:=0) U U ?_|refine US.nz U (by decide) U U av U (k:=1) U U ?_|refine US.nz U (by decide) U U av U (k:=2) U U ?_|refine US.nz U (by decide) U U av U (k:=3) U U ?_|refine US.nz U (by decide) U U av U (k:=4) U U ?_|refine US.nz U (by decide) U U av U (k:=5) U U ?_|refine US.gp U (by decide) U U U av (by first|rfl|exact Y _|(simp;done)) ?_
  refine US.oK U (by decide) U U z26 U U U U λp7=>?_
  first|refine US.dw U U U av U (k:=0) U (by first|rfl|exact Y _|(simp;done)) U U (by first|rfl|exact az _|(simp[encS,encI,aT,Value.oneCell'];done)) (by first|rfl|exact Y _|(simp;done)) U ?_|refine US.dw U U U av U (k:=1) U (by first|rfl|exact Y _|(simp;done)) U U (by first|rfl|exact az _|(simp[encS,encI,aT,Value.oneCell'];done)) (by first|rfl|exact Y _|(simp;done)) U ?_|refine US.dw U U U av U (k:=2) U (by first|rfl|exact Y _|(simp;done)) U U (by first|rfl|exact az _|(simp[encS,encI,aT,Value.oneCell'];done)) (by first|rfl|exact Y _|(simp;done)) U ?_|refine US.dw U U U av U (k:=3) U (by first|rfl|exact Y _|(simp;done)) U U (by first|rfl|exact az _|(simp[encS,encI,aT,Value.oneCell'];done)) (by first|rfl|exact Y _|(simp;done)) U ?_|refine US.dw U U U av U (k:=4) U (by first|rfl|exact Y _|(simp;done)) U U (by first|rfl|exact az _|(simp[encS,encI,aT,Value.oneCell'];done)) (by first|rfl|exact Y _|(simp;done)) U ?_|refine US.dw U U U av U (k:=5) U (by first|rfl|exact Y _|(simp;done)) U U (by first|rfl|exact az _|(simp[encS,encI,aT,Value.oneCell'];done)) (by first|rfl|exact Y _|(simp;done)) U ?_|refine US.gu U U U av U (k:=0) U U U (by first|rfl|exact az _|(simp[encS,encI,aT,Value.oneCell'];done)) (by first|rfl|exact Y _|(simp;done)) U U ?_|refine US.gu U U U av U (k:=1) U U U (by first|rfl|exact az _|(simp[encS,encI,aT,Value.oneCell'];done)) (by first|rfl|exact Y _|(simp;done)) U U ?_|refine US.gu U U U av U (k:=2) U U U (by first|rfl|exact az _|(simp[encS,encI,aT,Value.oneCell'];done)) (by first|rfl|exact Y _|(simp;done)) U U ?_|refine US.gu U U U av U (k:=3) U U U (by first|rfl|exact az _|(simp[encS,encI,aT,Value.oneCell'];done)) (by first|rfl|exact Y _|(simp;done)) U U ?_|refine US.gu U U U av U (k:=4) U U U (by first|rfl|exact az _|(simp[encS,encI,aT,Value.oneCell'];done)) (by first|rfl|exact Y _|(simp;done)) U U ?_|refine US.gu U U U av U (k:=5) U U U (by first|rfl|exact az _|(simp[encS,encI,aT,Value.oneCell'];done)) (by first|rfl|exact Y _|(simp;done)) U U ?_
  refine US.nil<|?_
  repeat (with_reducible first|refine UW.seq ?_|refine UW.block ?_|refine UQ.then ?_|refine UQ.aB ?_|refine UW.skip ?_|refine UW.exit ?_|refine UQ.pass ?_|refine UQ.here ?_|refine UQ.out (by decide) ?_|refine UW.ret ?_|refine UQ.ax ?_|refine UQ.aI ?_|refine UW.region ?_)
  refine Q.mv U<|Q.mv U<|?_
  first|refine US.dV U (by decide) U U av U (k:=0) U (by first|rfl|exact Y _|(simp;done)) ?_|refine US.dV U (by decide) U U av U (k:=1) U (by first|rfl|exact Y _|(simp;done)) ?_|refine US.dV U (by decide) U U av U (k:=2) U (by first|rfl|exact Y _|(simp;done)) ?_|refine US.dV U (by decide) U U av U (k:=3) U (by first|rfl|exact Y _|(simp;done)) ?_|refine US.dV U (by decide) U U av U (k:=4) U (by first|rfl|exact Y _|(simp;done)) ?_|refine US.dV U (by decide) U U av U (k:=5) U (by first|rfl|exact Y _|(simp;done)) ?_|refine US.nz U (by decide) U U av U (k:=0) U U ?_|refine US.nz U (by decide) U U av U (k:=1) U U ?_|refine US.nz U (by decide) U U av U (k:=2) U U ?_|refine US.nz U (by decide) U U av U (k:=3) U U ?_|refine US.nz U (by decide) U U av U (k:=4) U U ?_|refine US.nz U (by decide) U U av U (k:=5) U U ?_|refine US.gp U (by decide) U U U av (by first|rfl|exact Y _|(simp;done)) ?_
  refine US.dL U (by decide) U U U U (λ_=>hc _ (List.getElem_mem hlt) _)<|US.qh U (by decide) U U wI (by decide) U U U (by first|exact bz U|(intro cs h;cases List.mem_singleton.1 h;exact⟨by first|rfl|exact az _,by first|rfl|exact Y _⟩)|(simp[encS,encI,aT,Value.oneCell'];done))<|?_
  refine US.iI U (by decide) U U wI U (k:=1) U (by rw[List.length_take];omega) U (uo.sl (λcs h=>by cases List.mem_singleton.1 h;rfl)) (by first|omega|(simp;omega)) (Eq.trans (by rw[List.take_take,Nat.min_self];rfl) (Tc g l k hlt)) λp19=>?_
  refine Q.as U<|US.nil<|?_
  repeat (with_reducible first|refine UW.seq ?_|refine UW.block ?_|refine UQ.then ?_|refine UQ.aB ?_|refine UW.skip ?_|refine UW.exit ?_|refine UQ.pass ?_|refine UQ.here ?_|refine UQ.out (by decide) ?_|refine UW.ret ?_|refine UQ.ax ?_|refine UQ.aI ?_|refine UW.region ?_)
  refine US.add U (by decide) U U U U (IntWalk.i64_in _ (by omega))<|Q.mv U<|?_
  exact US.round (a':=(k+1,p19)) (by simp only;omega) (by simp only;omega) ⟨rfl,rfl,rfl,rfl,rfl,trivial⟩ (by simp)
 ·have h:=of_decide_eq_false h
  have hkl:k=l.length:=by simp only at h;omega
  repeat (with_reducible first|refine UW.seq ?_|refine UW.block ?_|refine UQ.then ?_|refine UQ.aB ?_|refine UW.skip ?_|refine UW.exit ?_|refine UQ.pass ?_|refine UQ.here ?_|refine UQ.out (by decide) ?_|refine UW.ret ?_|refine UQ.ax ?_|refine UQ.aI ?_|refine UW.region ?_)
  refine Q.mv U<|Q.as U<|US.nil<|?_
  repeat (with_reducible first|refine UW.seq ?_|refine UW.block ?_|refine UQ.then ?_|refine UQ.aB ?_|refine UW.skip ?_|refine UW.exit ?_|refine UQ.pass ?_|refine UQ.here ?_|refine UQ.out (by decide) ?_|refine UW.ret ?_|refine UQ.ax ?_|refine UQ.aI ?_|refine UW.region ?_)
  refine bR [(id,_)] (λ_=>ak U U) (.refl _) λhd=>?_
  exact⟨_,hd,rfl,id,by rw[hgl,hkl],by rw[hkl,<-hgl,List.take_length]⟩
theorem OL(l:List Int)(hl:l.length<=1000001)(h1:1<=l.length)(H:Hp):
 au Tryz.prog 99 [ints l] H (bB H (.v (.int .i64 (J5 l)))):=by
 obtain⟨a,r,rfl⟩:∃a r,l=a::r:=by cases l with|nil=>simp at h1|cons a r=>exact⟨a,r,rfl⟩
 have hmap:((a::r).map encI).length=r.length+1:=by simp
 have hn:¬(((a::r).map encI).length:Int)<1:=by omega
 refine aF (n:=25) (H0:=H) (I:=[]) Tryz.func99 (by kernel_rfl) U (by rw[Tryz.ntmps99];rfl) .nil<|?_
 repeat (with_reducible first|refine UW.seq ?_|refine UW.block ?_|refine UQ.then ?_|refine UQ.aB ?_|refine UW.skip ?_|refine UW.exit ?_|refine UQ.pass ?_|refine UQ.here ?_|refine UQ.out (by decide) ?_|refine UW.ret ?_|refine UQ.ax ?_|refine UQ.aI ?_|refine UW.region ?_)
 refine Q.as U<|US.nil<|?_
 repeat (with_reducible first|refine UW.seq ?_|refine UW.block ?_|refine UQ.then ?_|refine UQ.aB ?_|refine UW.skip ?_|refine UW.exit ?_|refine UQ.pass ?_|refine UQ.here ?_|refine UQ.out (by decide) ?_|refine UW.ret ?_|refine UQ.ax ?_|refine UQ.aI ?_|refine UW.region ?_)
 refine Q.mv U<|?_
 first|refine US.gq U (by decide) U U AA U ?_|refine US.iQ U (by decide) U U AA U ?_|refine US.len_nil U (by decide) U U AA U ?_
 refine US.aA U (by decide) U U U U (r:=.bool false) (by simp[eT];omega)<|?_
 refine US.nil<|?_
 repeat (with_reducible first|refine UW.seq ?_|refine UW.block ?_|refine UQ.then ?_|refine UQ.aB ?_|refine UW.skip ?_|refine UW.exit ?_|refine UQ.pass ?_|refine UQ.here ?_|refine UQ.out (by decide) ?_|refine UW.ret ?_|refine UQ.ax ?_|refine UQ.aI ?_|refine UW.region ?_)
 refine UW.cond U (λh=>absurd h (by simp)) λ_=>?_
 repeat (with_reducible first|refine UW.seq ?_|refine UW.block ?_|refine UQ.then ?_|refine UQ.aB ?_|refine UW.skip ?_|refine UW.exit ?_|refine UQ.pass ?_|refine UQ.here ?_|refine UQ.out (by decide) ?_|refine UW.ret ?_|refine UQ.ax ?_|refine UQ.aI ?_|refine UW.region ?_)
 refine Q.mv U<|US.bM U (by decide) U U AA U U (by omega) U U<|?_
 first|refine US.aJ U (by decide) U U fB U (k:=0) U U ?_|refine US.aJ U (by decide) U U fB U (k:=1) U U ?_|refine US.aJ U (by decide) U U fB U (k:=2) U U ?_|refine US.aJ U (by decide) U U fB U (k:=3) U U ?_|refine US.aJ U (by decide) U U fB U (k:=4) U U ?_|refine US.aJ U (by decide) U U fB U (k:=5) U U ?_|refine US.bI U (by decide) U U U fB ?_
 refine Q.as U<|US.nil<|?_
 repeat (with_reducible first|refine UW.seq ?_|refine UW.block ?_|refine UQ.then ?_|refine UQ.aB ?_|refine UW.skip ?_|refine UW.exit ?_|refine UQ.pass ?_|refine UQ.here ?_|refine UQ.out (by decide) ?_|refine UW.ret ?_|refine UQ.ax ?_|refine UQ.aI ?_|refine UW.region ?_)
 refine Q.as U<|US.nil<|?_
 repeat (with_reducible first|refine UW.seq ?_|refine UW.block ?_|refine UQ.then ?_|refine UQ.aB ?_|refine UW.skip ?_|refine UW.exit ?_|refine UQ.pass ?_|refine UQ.here ?_|refine UQ.out (by decide) ?_|refine UW.ret ?_|refine UQ.ax ?_|refine UQ.aI ?_|refine UW.region ?_)
 refine UW.loop (λk:Nat=>[(4,.v (.int .i64 ((k+1:Nat):Int))),(3,.v (.int .i64 ((r.take k).foldl (λm c=>if c>m then c else m) a))),(0,ints (a::r))]) (λ_=>[]) (λk=>k<=r.length) (λk=>r.length-k) 0 (Nat.zero_le _) ⟨rfl,rfl,rfl,trivial⟩ (.refl _)<|?_
 intro k hk
 have hrl:r.length<=1000000:=by simpa using hl
 repeat (with_reducible first|refine UW.seq ?_|refine UW.block ?_|refine UQ.then ?_|refine UQ.aB ?_|refine UW.skip ?_|refine UW.exit ?_|refine UQ.pass ?_|refine UQ.here ?_|refine UQ.out (by decide) ?_|refine UW.ret ?_|refine UQ.ax ?_|refine UQ.aI ?_|refine UW.region ?_)
 refine Q.mv U<|Q.mv U<|?_
 first|refine US.gq U (by decide) U U AA U ?_|refine US.iQ U (by decide) U U AA U ?_|refine US.len_nil U (by decide) U U AA U ?_
 refine Q.bi U U U<|US.nil<|?_
 repeat (with_reducible first|refine UW.seq ?_|refine UW.block ?_|refine UQ.then ?_|refine UQ.aB ?_|refine UW.skip ?_|refine UW.exit ?_|refine UQ.pass ?_|refine UQ.here ?_|refine UQ.out (by decide) ?_|refine UW.ret ?_|refine UQ.ax ?_|refine UQ.aI ?_|refine UW.region ?_)
 refine UW.cond U (λh=>?_) (λh=>?_)
 ·have h:=of_decide_eq_true h
  have hlt:k<r.length:=by omega
  repeat (with_reducible first|refine UW.seq ?_|refine UW.block ?_|refine UQ.then ?_|refine UQ.aB ?_|refine UW.skip ?_|refine UW.exit ?_|refine UQ.pass ?_|refine UQ.here ?_|refine UQ.out (by decide) ?_|refine UW.ret ?_|refine UQ.ax ?_|refine UQ.aI ?_|refine UW.region ?_)
  refine Q.mv U<|Q.mv U<|Q.mv U<|US.bM U (by decide) U U AA U U (by omega) (Vj (a::r) (k+1) (by simp;omega)) U<|?_
  first|refine US.aJ U (by decide) U U fB U (k:=0) U U ?_|refine US.aJ U (by decide) U U fB U (k:=1) U U ?_|refine US.aJ U (by decide) U U fB U (k:=2) U U ?_|refine US.aJ U (by decide) U U fB U (k:=3) U U ?_|refine US.aJ U (by decide) U U fB U (k:=4) U U ?_|refine US.aJ U (by decide) U U fB U (k:=5) U U ?_|refine US.bI U (by decide) U U U fB ?_
  refine US.max2 U (by decide) U U U U<|Q.as U<|US.nil<|?_
  repeat (with_reducible first|refine UW.seq ?_|refine UW.block ?_|refine UQ.then ?_|refine UQ.aB ?_|refine UW.skip ?_|refine UW.exit ?_|refine UQ.pass ?_|refine UQ.here ?_|refine UQ.out (by decide) ?_|refine UW.ret ?_|refine UQ.ax ?_|refine UQ.aI ?_|refine UW.region ?_)
  refine Q.mv U<|US.add U (by decide) U U U U (r:=((k+1+1:Nat):Int)) (IntWalk.i64_in _ (by omega))<|Q.as U<|?_
  have e:(r.take (k+1)).foldl (λm c=>if c>m then c else m) a=(if r[k]>(r.take k).foldl (λm c=>if c>m then c else m) a then r[k] else(r.take k).foldl (λm c=>if c>m then c else m) a):=by
   rw[List.take_add_one,List.getElem?_eq_getElem hlt,Option.toList_some,List.foldl_append]
   rfl
  exact US.round (a':=k+1) (by omega) (by omega) ⟨rfl,(by show some _=some (AV.v (.int .i64 ((r.take (k+1)).foldl (λm c=>if c>m then c else m) a)));rw[e];rfl),rfl,trivial⟩ (.refl _)
 ·have h:=of_decide_eq_false h
  have hkl:k=r.length:=by omega
  repeat (with_reducible first|refine UW.seq ?_|refine UW.block ?_|refine UQ.then ?_|refine UQ.aB ?_|refine UW.skip ?_|refine UW.exit ?_|refine UQ.pass ?_|refine UQ.here ?_|refine UQ.out (by decide) ?_|refine UW.ret ?_|refine UQ.ax ?_|refine UQ.aI ?_|refine UW.region ?_)
  refine Q.mv U<|Q.as U<|US.nil<|?_
  repeat (with_reducible first|refine UW.seq ?_|refine UW.block ?_|refine UQ.then ?_|refine UQ.aB ?_|refine UW.skip ?_|refine UW.exit ?_|refine UQ.pass ?_|refine UQ.here ?_|refine UQ.out (by decide) ?_|refine UW.ret ?_|refine UQ.ax ?_|refine UQ.aI ?_|refine UW.region ?_)
  refine bR [] (λ_=>ak U U) (.refl _) λhd=>⟨?_,rfl⟩
  rw[hkl,List.take_length];rfl
theorem Uw(x:V)(hx:Fits x):∀(hd:cZ x<=1000000) (H:Hp),au Tryz.prog 65 [.agg (aC x)] H (bB H (.v (.int .i64 (cZ x)))):=by
 induction hx with
 |mk k n t ks vs h1 h2 h ih=>
 intro hd H
 have hsub:(k=4\/k=5)->∀x∈vs,∀H,au Tryz.prog 65 [.agg (aC x)] H (bB H (.v (.int .i64 (cZ x)))):=λhk x hx H=>ih x hx (by have:=Vk (n:=n) (t:=t) (ks:=ks) hk hx;omega) H
 have hdq:(k=4\/k=5)->cZ (.mk k n t ks vs)=1+J5 (vs.map cZ++[0]):=λhk=>by rw[cZ,if_pos hk,xY]
 have hnn:=AO (.mk k n t ks vs)
 refine aF (n:=18) (H0:=H) (I:=[]) Tryz.func65 (by kernel_rfl) U (by rw[Tryz.ntmps65];rfl) .nil<|?_
 repeat (with_reducible first|refine UW.seq ?_|refine UW.block ?_|refine UQ.then ?_|refine UQ.aB ?_|refine UW.skip ?_|refine UW.exit ?_|refine UQ.pass ?_|refine UQ.here ?_|refine UQ.out (by decide) ?_|refine UW.ret ?_|refine UQ.ax ?_|refine UQ.aI ?_|refine UW.region ?_)
 refine US.box U (by decide) U U U U (by first|rfl|exact az _|(simp[encS,encI,aT,Value.oneCell'];done)) λp1=>?_
 refine Q.as U<|US.nil<|?_
 repeat (with_reducible first|refine UW.seq ?_|refine UW.block ?_|refine UQ.then ?_|refine UQ.aB ?_|refine UW.skip ?_|refine UW.exit ?_|refine UQ.pass ?_|refine UQ.here ?_|refine UQ.out (by decide) ?_|refine UW.ret ?_|refine UQ.ax ?_|refine UQ.aI ?_|refine UW.region ?_)
 by_cases h4:k=4
 ·have hsub:=hsub (.inl h4)
  have hdeq:=hdq (.inl h4)
  first|refine US.fieldAddr U (by decide) U U U bT ?_|refine US.jO U (by decide) U U U bT U ?_
  first|refine US.aJ U (by decide) U U fB U (k:=0) U U ?_|refine US.aJ U (by decide) U U fB U (k:=1) U U ?_|refine US.aJ U (by decide) U U fB U (k:=2) U U ?_|refine US.aJ U (by decide) U U fB U (k:=3) U U ?_|refine US.aJ U (by decide) U U fB U (k:=4) U U ?_|refine US.aJ U (by decide) U U fB U (k:=5) U U ?_|refine US.bI U (by decide) U U U fB ?_
  refine US.aA U (by decide) U U U U (r:=.bool false) (by first|(simp[eT,fe,h4];done)|(simp[eT,fe];omega)|exact congrArg (λb=>some (Value.bool b)) (decide_eq_false h4))<|?_
  refine Q.mv U<|?_
  first|refine US.EK U (by decide) U U U U ?_|refine US.yK U (by decide) U U U ?_|(refine US.on U U (by decide) U ?_;first|refine US.fieldAddr U (by decide) U U U bT ?_|refine US.jO U (by decide) U U U bT U ?_)
  first|refine US.EK U (by decide) U U U U ?_|refine US.yK U (by decide) U U U ?_|(refine US.on U U (by decide) U ?_;first|refine US.aJ U (by decide) U U fB U (k:=0) U U ?_|refine US.aJ U (by decide) U U fB U (k:=1) U U ?_|refine US.aJ U (by decide) U U fB U (k:=2) U U ?_|refine US.aJ U (by decide) U U fB U (k:=3) U U ?_|refine US.aJ U (by decide) U U fB U (k:=4) U U ?_|refine US.aJ U (by decide) U U fB U (k:=5) U U ?_|refine US.bI U (by decide) U U U fB ?_)
  first|refine US.EK U (by decide) U U U U ?_|refine US.yK U (by decide) U U U ?_|(refine US.on U U (by decide) U ?_;refine US.aA U (by decide) U U U U U ?_)
  refine Q.pk U U<|US.nil<|?_
  repeat (with_reducible first|refine UW.seq ?_|refine UW.block ?_|refine UQ.then ?_|refine UQ.aB ?_|refine UW.skip ?_|refine UW.exit ?_|refine UQ.pass ?_|refine UQ.here ?_|refine UQ.out (by decide) ?_|refine UW.ret ?_|refine UQ.ax ?_|refine UQ.aI ?_|refine UW.region ?_)
  refine UW.cond U (λh=>absurd h (by simp)) λ_=>?_
  repeat (with_reducible first|refine UW.seq ?_|refine UW.block ?_|refine UQ.then ?_|refine UQ.aB ?_|refine UW.skip ?_|refine UW.exit ?_|refine UQ.pass ?_|refine UQ.here ?_|refine UQ.out (by decide) ?_|refine UW.ret ?_|refine UQ.ax ?_|refine UQ.aI ?_|refine UW.region ?_)
  first|refine US.fieldAddr U (by decide) U U U bU ?_|refine US.jO U (by decide) U U U bU U ?_
  first|refine US.aJ U (by decide) U U dR U (k:=0) U U ?_|refine US.aJ U (by decide) U U dR U (k:=1) U U ?_|refine US.aJ U (by decide) U U dR U (k:=2) U U ?_|refine US.aJ U (by decide) U U dR U (k:=3) U U ?_|refine US.aJ U (by decide) U U dR U (k:=4) U U ?_|refine US.aJ U (by decide) U U dR U (k:=5) U U ?_|refine US.bI U (by decide) U U U dR ?_
  refine US.mE U (by decide) U U U U (λ_=>BH vs _ cZ h2 hsub _) ?_;rintro _ _ ⟨UI,rfl,rfl⟩
  refine US.qh U (by decide) U U wI (by decide) U U U (by first|exact bz U|(intro cs h;cases List.mem_singleton.1 h;exact⟨by first|rfl|exact az _,by first|rfl|exact Y _⟩)|(simp[encS,encI,aT,Value.oneCell'];done))<|?_
  refine US.iI U (by decide) U U wI U (k:=0) U (by first|omega|simp) U (uo.sl (λcs h=>by cases List.mem_singleton.1 h;rfl)) (by simp;omega) (rs:=(vs.map cZ++[0]).map encI) (by rw[List.map_append,List.take_of_length_le (by simp)];rfl) λp15=>?_
  refine US.fV 15 (k:=0) U U (by simp) (rs:=(vs.map cZ++[0]).map encI) (by rw[List.drop_zero,List.take_of_length_le (by simp)])<|?_
  refine US.dL U (by decide) U U U U (λ_=>OL (vs.map cZ++[0]) (by simp;omega) (by simp) _)<|?_
  refine US.add U (by decide) U U U U (r:=cZ (.mk k n t ks vs)) (by rw[hdeq];exact IntWalk.i64_in _ (by omega))<|?_
  refine Q.as U<|US.nil<|?_
  repeat (with_reducible first|refine UW.seq ?_|refine UW.block ?_|refine UQ.then ?_|refine UQ.aB ?_|refine UW.skip ?_|refine UW.exit ?_|refine UQ.pass ?_|refine UQ.here ?_|refine UQ.out (by decide) ?_|refine UW.ret ?_|refine UQ.ax ?_|refine UQ.aI ?_|refine UW.region ?_)
  exact bR [] (λ_=>ak U U) (by simp) λhd=>⟨rfl,rfl⟩
 ·by_cases h5:k=5
  ·have hsub:=hsub (.inr h5)
   have hdeq:=hdq (.inr h5)
   first|refine US.fieldAddr U (by decide) U U U bT ?_|refine US.jO U (by decide) U U U bT U ?_
   first|refine US.aJ U (by decide) U U fB U (k:=0) U U ?_|refine US.aJ U (by decide) U U fB U (k:=1) U U ?_|refine US.aJ U (by decide) U U fB U (k:=2) U U ?_|refine US.aJ U (by decide) U U fB U (k:=3) U U ?_|refine US.aJ U (by decide) U U fB U (k:=4) U U ?_|refine US.aJ U (by decide) U U fB U (k:=5) U U ?_|refine US.bI U (by decide) U U U fB ?_
   refine US.aA U (by decide) U U U U (r:=.bool true) (by first|(simp[eT,fe,h4];done)|(simp[eT,fe];omega)|exact congrArg (λb=>some (Value.bool b)) (decide_eq_true h4))<|?_
   refine Q.mv U<|?_
   first|refine US.EK U (by decide) U U U U ?_|refine US.yK U (by decide) U U U ?_|(refine US.on U U (by decide) U ?_;first|refine US.fieldAddr U (by decide) U U U bT ?_|refine US.jO U (by decide) U U U bT U ?_)
   first|refine US.EK U (by decide) U U U U ?_|refine US.yK U (by decide) U U U ?_|(refine US.on U U (by decide) U ?_;first|refine US.aJ U (by decide) U U fB U (k:=0) U U ?_|refine US.aJ U (by decide) U U fB U (k:=1) U U ?_|refine US.aJ U (by decide) U U fB U (k:=2) U U ?_|refine US.aJ U (by decide) U U fB U (k:=3) U U ?_|refine US.aJ U (by decide) U U fB U (k:=4) U U ?_|refine US.aJ U (by decide) U U fB U (k:=5) U U ?_|refine US.bI U (by decide) U U U fB ?_)
   first|refine US.EK U (by decide) U U U U ?_|refine US.yK U (by decide) U U U ?_|(refine US.on U U (by decide) U ?_;refine US.aA U (by decide) U U U U (r:=.bool false) (by first|(simp[eT,fe,h5];done)|(simp[eT,fe];omega)|exact congrArg (λb=>some (Value.bool b)) (decide_eq_false h5)) ?_)
   refine Q.pk U U<|US.nil<|?_
   repeat (with_reducible first|refine UW.seq ?_|refine UW.block ?_|refine UQ.then ?_|refine UQ.aB ?_|refine UW.skip ?_|refine UW.exit ?_|refine UQ.pass ?_|refine UQ.here ?_|refine UQ.out (by decide) ?_|refine UW.ret ?_|refine UQ.ax ?_|refine UQ.aI ?_|refine UW.region ?_)
   refine UW.cond U (λh=>absurd h (by simp)) λ_=>?_
   repeat (with_reducible first|refine UW.seq ?_|refine UW.block ?_|refine UQ.then ?_|refine UQ.aB ?_|refine UW.skip ?_|refine UW.exit ?_|refine UQ.pass ?_|refine UQ.here ?_|refine UQ.out (by decide) ?_|refine UW.ret ?_|refine UQ.ax ?_|refine UQ.aI ?_|refine UW.region ?_)
   first|refine US.fieldAddr U (by decide) U U U bU ?_|refine US.jO U (by decide) U U U bU U ?_
   first|refine US.aJ U (by decide) U U dR U (k:=0) U U ?_|refine US.aJ U (by decide) U U dR U (k:=1) U U ?_|refine US.aJ U (by decide) U U dR U (k:=2) U U ?_|refine US.aJ U (by decide) U U dR U (k:=3) U U ?_|refine US.aJ U (by decide) U U dR U (k:=4) U U ?_|refine US.aJ U (by decide) U U dR U (k:=5) U U ?_|refine US.bI U (by decide) U U U dR ?_
   refine US.mE U (by decide) U U U U (λ_=>BH vs _ cZ h2 hsub _) ?_;rintro _ _ ⟨UI,rfl,rfl⟩
   refine US.qh U (by decide) U U wI (by decide) U U U (by first|exact bz U|(intro cs h;cases List.mem_singleton.1 h;exact⟨by first|rfl|exact az _,by first|rfl|exact Y _⟩)|(simp[encS,encI,aT,Value.oneCell'];done))<|?_
   refine US.iI U (by decide) U U wI U (k:=0) U (by first|omega|simp) U (uo.sl (λcs h=>by cases List.mem_singleton.1 h;rfl)) (by simp;omega) (rs:=(vs.map cZ++[0]).map encI) (by rw[List.map_append,List.take_of_length_le (by simp)];rfl) λp15=>?_
   refine US.fV 15 (k:=0) U U (by simp) (rs:=(vs.map cZ++[0]).map encI) (by rw[List.drop_zero,List.take_of_length_le (by simp)])<|?_
   refine US.dL U (by decide) U U U U (λ_=>OL (vs.map cZ++[0]) (by simp;omega) (by simp) _)<|?_
   refine US.add U (by decide) U U U U (r:=cZ (.mk k n t ks vs)) (by rw[hdeq];exact IntWalk.i64_in _ (by omega))<|?_
   refine Q.as U<|US.nil<|?_
   repeat (with_reducible first|refine UW.seq ?_|refine UW.block ?_|refine UQ.then ?_|refine UQ.aB ?_|refine UW.skip ?_|refine UW.exit ?_|refine UQ.pass ?_|refine UQ.here ?_|refine UQ.out (by decide) ?_|refine UW.ret ?_|refine UQ.ax ?_|refine UQ.aI ?_|refine UW.region ?_)
   exact bR [] (λ_=>ak U U) (by simp) λhd=>⟨rfl,rfl⟩
  ·first|refine US.fieldAddr U (by decide) U U U bT ?_|refine US.jO U (by decide) U U U bT U ?_
   first|refine US.aJ U (by decide) U U fB U (k:=0) U U ?_|refine US.aJ U (by decide) U U fB U (k:=1) U U ?_|refine US.aJ U (by decide) U U fB U (k:=2) U U ?_|refine US.aJ U (by decide) U U fB U (k:=3) U U ?_|refine US.aJ U (by decide) U U fB U (k:=4) U U ?_|refine US.aJ U (by decide) U U fB U (k:=5) U U ?_|refine US.bI U (by decide) U U U fB ?_
   refine US.aA U (by decide) U U U U (r:=.bool true) (by first|(simp[eT,fe,h4];done)|(simp[eT,fe];omega)|exact congrArg (λb=>some (Value.bool b)) (decide_eq_true h4))<|?_
   refine Q.mv U<|?_
   first|refine US.EK U (by decide) U U U U ?_|refine US.yK U (by decide) U U U ?_|(refine US.on U U (by decide) U ?_;first|refine US.fieldAddr U (by decide) U U U bT ?_|refine US.jO U (by decide) U U U bT U ?_)
   first|refine US.EK U (by decide) U U U U ?_|refine US.yK U (by decide) U U U ?_|(refine US.on U U (by decide) U ?_;first|refine US.aJ U (by decide) U U fB U (k:=0) U U ?_|refine US.aJ U (by decide) U U fB U (k:=1) U U ?_|refine US.aJ U (by decide) U U fB U (k:=2) U U ?_|refine US.aJ U (by decide) U U fB U (k:=3) U U ?_|refine US.aJ U (by decide) U U fB U (k:=4) U U ?_|refine US.aJ U (by decide) U U fB U (k:=5) U U ?_|refine US.bI U (by decide) U U U fB ?_)
   first|refine US.EK U (by decide) U U U U ?_|refine US.yK U (by decide) U U U ?_|(refine US.on U U (by decide) U ?_;refine US.aA U (by decide) U U U U (r:=.bool true) (by first|(simp[eT,fe,h5];done)|(simp[eT,fe];omega)|exact congrArg (λb=>some (Value.bool b)) (decide_eq_true h5)) ?_)
   refine Q.pk U U<|US.nil<|?_
   repeat (with_reducible first|refine UW.seq ?_|refine UW.block ?_|refine UQ.then ?_|refine UQ.aB ?_|refine UW.skip ?_|refine UW.exit ?_|refine UQ.pass ?_|refine UQ.here ?_|refine UQ.out (by decide) ?_|refine UW.ret ?_|refine UQ.ax ?_|refine UQ.aI ?_|refine UW.region ?_)
   refine UW.cond U (λ_=>?_) (λh=>absurd h (by simp))
   repeat (with_reducible first|refine UW.seq ?_|refine UW.block ?_|refine UQ.then ?_|refine UQ.aB ?_|refine UW.skip ?_|refine UW.exit ?_|refine UQ.pass ?_|refine UQ.here ?_|refine UQ.out (by decide) ?_|refine UW.ret ?_|refine UQ.ax ?_|refine UQ.aI ?_|refine UW.region ?_)
   refine Q.as U<|US.nil<|?_
   repeat (with_reducible first|refine UW.seq ?_|refine UW.block ?_|refine UQ.then ?_|refine UQ.aB ?_|refine UW.skip ?_|refine UW.exit ?_|refine UQ.pass ?_|refine UQ.here ?_|refine UQ.out (by decide) ?_|refine UW.ret ?_|refine UQ.ax ?_|refine UQ.aI ?_|refine UW.region ?_)
   refine bR [] (λ_=>ak U U) (by simp) λhd=>⟨?_,rfl⟩
   rw[cZ,if_neg (by rintro(h|h);exact h4 h;exact h5 h)]
end Go.Proofs.YtonpfomjoiaacaaGreatDoor
end
