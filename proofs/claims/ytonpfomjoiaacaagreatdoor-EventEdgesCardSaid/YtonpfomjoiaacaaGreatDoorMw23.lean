/- A part of the proof. -/
import Derived.Test.YtonpfomjoiaacaaGreatDoorMw22
set_option maxRecDepth 100000
set_option maxHeartbeats 4000000
set_option linter.unusedSectionVars false
set_option linter.unusedVariables false
set_option linter.unusedSimpArgs false
section
namespace Go.Proofs.YtonpfomjoiaacaaGreatDoor
open Go Go.iG Go.RowKit
theorem Cs(b:List Int)(x:Int):bC (b++[x])=bC b++[[.v (.int .u8 x)]]:=by unfold bC;rw[List.map_append];rfl
theorem Gu(a b:List Int):bC (a++b)=bC a++bC b:=by unfold bC;rw[List.map_append]
theorem Be(b:List Int)(j:Nat)(x:Int):(bC b).set j [.v (.int .u8 x)]=bC (b.set j x):=by unfold bC;rw[List.map_set]
theorem Nw(m:Nat):List.replicate m [.v (.int .u8 0)]=bC (List.replicate m 0):=by unfold bC;rw[List.map_replicate]
theorem Ct(b:List Int)(j:Nat):(bC b).take j=bC (b.take j):=by unfold bC;rw[List.map_take]
theorem Cu(b:List Int)(j:Nat):(bC b).drop j=bC (b.drop j):=by unfold bC;rw[List.map_drop]
def zN(n:Nat):Nat:=(119-n % 64)% 64
def tb(v:Int)(i:Nat):Int:=IntKind.u8.wrap (v.fdiv (2^min (8*i) 64))
def Qk(v:Int):List Int:=[tb v 7,tb v 6,tb v 5,tb v 4,tb v 3,tb v 2,tb v 1,tb v 0]
def jS(n:Nat):List Int:=128::(List.replicate (zN n) 0++Qk ((n*8:Nat):Int))
theorem Cv(n:Nat):(jS n).length=9+zN n:=by unfold jS Qk;simp;omega
theorem tb_bd(v:Int)(i:Nat):0<=tb v i/\tb v i<256:=by unfold tb;rw[IntKind.wrap_u8];omega
theorem Ny(n:Nat):fo (jS n):=by
 intro c hc
 unfold jS at hc
 rcases List.mem_cons.1 hc with rfl|hc
 ·decide
 ·rcases List.mem_append.1 hc with hc|hc
  ·rw[List.eq_of_mem_replicate hc];decide
  ·unfold Qk at hc
   simp only[List.mem_cons,List.mem_nil_iff,or_false] at hc
   rcases hc with rfl|rfl|rfl|rfl|rfl|rfl|rfl|rfl<;>exact tb_bd _ _
theorem VM(v:Int):∀i:Fin 8,(Qk v).drop (7-i.val)=tb v i.val::(Qk v).drop (8-i.val):=by
 rintro⟨i,hi⟩
 match i,hi with
 |0,_=>rfl
 |1,_=>rfl
 |2,_=>rfl
 |3,_=>rfl
 |4,_=>rfl
 |5,_=>rfl
 |6,_=>rfl
 |7,_=>rfl
theorem VN(v:Int):∀i:Fin 8,(Qk v).take (i.val+1)=(Qk v).take i.val++[tb v (7-i.val)]:=by
 rintro⟨i,hi⟩
 match i,hi with
 |0,_=>rfl
 |1,_=>rfl
 |2,_=>rfl
 |3,_=>rfl
 |4,_=>rfl
 |5,_=>rfl
 |6,_=>rfl
 |7,_=>rfl
def tH(n i:Nat):List Int:=128::(List.replicate (zN n+(8-i)) 0++(Qk ((n*8:Nat):Int)).drop (8-i))
theorem TH(n i:Nat)(hi:i<8):(tH n i).set (zN n+8-i) (tb ((n*8:Nat):Int) i)=tH n (i+1):=by
 unfold tH
 have hd:=VM ((n*8:Nat):Int) ⟨i,hi⟩
 simp only at hd
 rw[show zN n+8-i=(zN n+(7-i))+1 from by omega,List.set_cons_succ,show 8-(i+1)=7-i from by omega,hd]
 congr 1
 rw[List.set_append_left _ _ (by rw[List.length_replicate];omega)]
 have e:(List.replicate (zN n+(8-i)) (0:Int)).set (zN n+(7-i)) (tb ((n*8:Nat):Int) i)=List.replicate (zN n+(7-i)) 0++[tb ((n*8:Nat):Int) i]:=by
  rw[show zN n+(8-i)=(zN n+(7-i))+1 from by omega,List.replicate_succ',List.set_append_right _ _ (by rw[List.length_replicate];omega),List.length_replicate,Nat.sub_self]
  rfl
 rw[e,List.append_assoc]
 rfl
theorem TI(n i:Nat)(hi:i<=8):(tH n i).length=9+zN n:=by unfold tH Qk;simp;omega
theorem ZK(n:Nat):tH n 0=128::List.replicate (zN n+8) 0:=by unfold tH Qk;simp
theorem D.mkz{n:Nat}{ops:Array Oper}{H0:Hp}{K:AV->List (Nat×Ob)->Prop}{l:List (Nat×AV)}{I:List (Nat×Ob)}{x y:Operand}{dst:Option Nat}{ty:TypeId}{ps:String}{af:Array Edge}{ki kj:IntKind}(m:Nat)(hx:aW l x=some (.v (.int ki (m:Int))))(hy:aW l y=some (.v (.int kj (m:Int))))(hb:m<=140737488355328)(hk:∀id,K (.own id 0 m 1) ((id,.row 5 1 (bC (List.replicate m 0)))::I)):DS Tryz.prog n ops H0 ⟨dst,.makeSlice 22 x y,ty,ps,af,none⟩ l I K:=
 D.mks m je hx hy z5 (by omega) (λid=>by rw[Nw];exact hk id)
theorem D.azz{n tn:Nat}{ops:Array Oper}{H0:Hp}{K:AV->List (Nat×Ob)->Prop}{l:List (Nat×AV)}{I:List (Nat×Ob)}{x y:Operand}{dst:Option Nat}{ty:TypeId}{ps:String}{af:Array Edge}{kq kn:IntKind}(m:Nat)(htn:Tryz.prog.underlying tn=some (.int kn))(hx:aW l x=some (.v (.slice none 0 0)))(hy:aW l y=some (.v (.int kq (m:Int))))(h0:0<m)(hb:m<=140737488355328)(hk:∀id,K (.own id 0 m 1) ((id,.row 5 1 (bC (List.replicate m 0)))::I)):DS Tryz.prog n ops H0 ⟨dst,.call {callee:=.builtin .append,args:= #[x,y],argTypes:= #[22,tn]},ty,ps,af,none⟩ l I K:=
 D.azn m je htn hx hy h0 z5 (by omega) (λid=>by rw[Nw];exact hk id)
theorem TJ(n:Nat)(hn:n<=100000000000)(H:Hp):au Tryz.prog 221 [.v (.int .u64 (n:Int))] H (bB H (.sl (bC (jS n)))):=by
 have hz:zN n=(119-n % 64)% 64:=rfl
 have hzl:zN n<64:=by omega
 have e10:((119:Int)-((n % 64:Nat):Int)).tmod 64=((zN n:Nat):Int):=by
  rw[Int.tmod_eq_emod_of_nonneg (by omega),hz];omega
 have h0:(bC (List.replicate (1+zN n+8) 0)).set 0 [.v (.int .u8 128)]=bC (tH n 0):=by
  rw[Be,ZK,show 1+zN n+8=(zN n+8)+1 from by omega,List.replicate_succ,List.set_cons_zero]
 have hrs:=lJ (List.replicate (1+zN n+8) 0)
 have hrl:=dD (List.replicate (1+zN n+8) 0)
 rw[List.length_replicate] at hrl
 refine aF (n:=35) (H0:=H) (I:=[]) Tryz.func221 (by kernel_rfl) U (by rw[Tryz.ntmps221];rfl) .nil ?_
 refine S.sq (S.rg ?_)
 refine S.qu (Z.as U) ?_
 refine US.nil (UQ.then (S.sq (S.rg ?_)))
 refine S.qu (Z.mv U) ?_
 refine S.qu (Z.eq (u':=.v (.int .u64 ((n % 64:Nat):Int))) (Z.bi U U U) U) ?_
 refine S.qu (Z.cv (r:=((n % 64:Nat):Int)) Tryz.underlying3 U (IntWalk.i64_in _ (by omega)) (by rw[Tryz.underlying107];rfl)) ?_
 refine S.qu (Z.sub U U (IntWalk.i64_in _ (by omega))) ?_
 refine S.qu (Z.eq (u':=.v (.int .i64 ((zN n:Nat):Int))) (Z.bi U U U) (by rw[e10])) ?_
 refine S.qu (Z.as U) ?_
 refine US.nil (UQ.then (S.sq (S.rg ?_)))
 refine S.qu (Z.mv U) ?_
 refine S.qu (Z.add (r:=((1+zN n:Nat):Int)) U U (by rw[IntWalk.i64_in _ (by omega)];omega)) ?_
 refine S.qu (Z.add (r:=((1+zN n+8:Nat):Int)) U U (by rw[IntWalk.i64_in _ (by omega)];omega)) ?_
 refine S.dd (D.mkz (1+zN n+8) U U (by omega) (λMx=>?_))
 refine S.qu (Z.as U) ?_
 refine US.nil (UQ.then (S.sq (S.rg ?_)))
 refine S.qu (Z.mv U) ?_
 refine S.qu (Z.io cK U U (by omega) (by omega)) ?_
 refine S.s (D.sre 0 (m:=0) oW U U U (by omega) U U U U hrs h0 (λ_=>?_))
 refine US.nil (UQ.then (S.sq (S.sq (S.rg ?_))))
 refine S.qu (Z.mv U) ?_
 refine US.nil (UQ.then (UW.block ?_))
 refine S.loop (λi:Nat=>[(17,.v (.int .i64 (i:Int))),(4,.own Mx 0 (1+zN n+8) 1),(0,.v (.int .u64 (n:Int)))]) (λi=>[(Mx,.row 5 1 (bC (tH n i)))]) (λi=>i<=8) (λi=>8-i) 0 (Nat.zero_le _) ⟨rfl,rfl,rfl,trivial⟩ (.refl _) ?_
 intro i hi
 have hus:=lJ (tH n i)
 have hul:=dD (tH n i)
 rw[TI n i hi] at hul
 by_cases hlt:i<8
 ·have hset:(bC (tH n i)).set (zN n+8-i) [.v (.int .u8 (tb ((n*8:Nat):Int) i))]=bC (tH n (i+1)):=by rw[Be,TH n i hlt]
  refine S.sq (S.rg ?_)
  refine S.qu (Z.bi U U U) ?_
  refine US.nil (UQ.then (S.sq ?_))
  refine S.cT U (decide_eq_true (by omega)) ?_
  refine UW.skip (UQ.then (S.sq (UW.block (S.sq (S.rg ?_)))))
  refine S.qu (Z.mv U) ?_
  refine S.qu (Z.as U) ?_
  refine US.nil (UQ.then (S.rg ?_))
  refine S.qu (Z.mv U) ?_
  refine S.qu (Z.mv U) ?_
  refine S.qu (Z.OX cK U) ?_
  refine S.qu (Z.sub U U (IntWalk.i64_in _ (by omega))) ?_
  refine S.qu (Z.mv U) ?_
  refine S.qu (Z.sub U U (IntWalk.i64_in _ (by omega))) ?_
  refine S.qu (Z.mv U) ?_
  refine S.qu (Z.mul (r:=((n*8:Nat):Int)) U U (IntWalk.u64_in _ (by omega))) ?_
  refine S.qu (Z.mv U) ?_
  refine S.qu (Z.mul (r:=((8*i:Nat):Int)) U U (IntWalk.i64_in _ (by omega))) ?_
  refine S.qu (Z.shr U U (by omega) U) ?_
  refine S.qu (Z.cv (r:=tb ((n*8:Nat):Int) i) Tryz.underlying5 U U (by rw[Tryz.underlying107];rfl)) ?_
  refine S.qu (Z.io cK U U (by omega) (by omega)) ?_
  refine S.s (D.sre 0 (m:=zN n+8-i) oW U U (by omega) (by omega) U U U U hus hset (λ_=>?_))
  refine US.nil (UQ.aB (UQ.then (S.rg ?_)))
  refine S.qu (Z.add (r:=((i+1:Nat):Int)) U U (IntWalk.i64_in _ (by omega))) ?_
  refine S.qu (Z.mv U) ?_
  refine US.nil ?_
  refine S.back _ ⟨rfl,rfl,rfl,trivial⟩ (.refl _) (by omega) (by omega)
 ·have hi8:i=8:=by omega
  subst hi8
  refine S.sq (S.rg ?_)
  refine S.qu (Z.bi U U U) ?_
  refine US.nil (UQ.then (S.sq ?_))
  refine S.cF U (decide_eq_false (by omega)) ?_
  refine UW.exit (UQ.pass (UQ.pass (UQ.here (UQ.then (S.sq (S.rg ?_))))))
  refine S.qu (Z.mv U) ?_
  refine S.qu (Z.as U) ?_
  refine US.fV 2 0 (rs:=bC (jS n)) U U (by omega) (by rw[List.drop_zero];exact List.take_of_length_le (by omega)) ?_
  refine US.nil (UQ.then (UW.ret ?_))
  refine S.bH (λ_=>ak U U) ?_
  rfl
theorem tailK(n k:Nat):bC (128::List.replicate k 0)++[[.v (.int .u8 0)]]=bC (128::List.replicate (k+1) 0):=by
 rw[<-Cs,List.cons_append,<-List.replicate_succ']
theorem Ql(n:Nat)(hn:n<=100000000000)(H:Hp):au Tryz.prog 106 [.v (.int .u64 (n:Int))] H (bB H (.sl (bC (jS n)))):=by
 have hz:zN n=(119-n % 64)% 64:=rfl
 have hzl:zN n<64:=by omega
 refine aF (n:=34) (H0:=H) (I:=[]) Tryz.func106 (by kernel_rfl) U (by rw[Tryz.ntmps106];rfl) .nil ?_
 refine S.sq (S.rg ?_)
 refine S.qu (Z.as U) ?_
 refine US.nil (UQ.then (S.sq (S.rg ?_)))
 refine S.dd (D.lit je U U (bz U) (λp6=>?_))
 refine S.qu (Z.as U) ?_
 refine US.nil (UQ.then (S.sq (UW.block ?_)))
 refine S.loop (λj:Nat×Nat=>[(3,.own j.2 0 (j.1+1) 1),(0,.v (.int .u64 (n:Int)))]) (λj=>[(j.2,.row 5 1 (bC (128::List.replicate j.1 0)))]) (λj=>j.1<=zN n) (λj=>zN n-j.1) (0,p6) (Nat.zero_le _) ⟨rfl,rfl,trivial⟩ (.refl _) ?_
 rintro⟨k,r⟩ hk
 dsimp only at hk⊢
 have hrl:=dD (128::List.replicate k 0)
 rw[List.length_cons,List.length_replicate] at hrl
 have hap:(bC (128::List.replicate k 0)).take (k+1)++[[.v (.int .u8 0)]]=bC (128::List.replicate (k+1) 0):=by rw[List.take_of_length_le (by omega),tailK n k]
 by_cases hlt:k<zN n
 ·refine S.sq (S.sq (S.rg ?_))
  refine S.qu (Z.mv U) ?_
  refine S.qu (Z.eq (u':=.v (.int .u64 ((n % 64:Nat):Int))) (Z.bi U U U) U) ?_
  refine S.qu (Z.mv U) ?_
  refine S.qu (Z.OX cK U) ?_
  refine S.qu (Z.cv (r:=((k+1:Nat):Int)) Tryz.underlying107 U (IntWalk.u64_in _ (by omega)) (by rw[Tryz.underlying3];rfl)) ?_
  refine S.qu (Z.add (r:=((n % 64+(k+1):Nat):Int)) U U (by rw[IntWalk.u64_in _ (by omega)];omega)) ?_
  refine S.qu (Z.eq (u':=.v (.int .u64 (((n % 64+(k+1))% 64:Nat):Int))) (Z.bi U U U) U) ?_
  refine S.qu (Z.bi U U U) ?_
  refine US.nil (UQ.then ?_)
  refine S.cT U (rP (by omega)) ?_
  refine UW.skip (UQ.then (UW.block (S.rg ?_)))
  refine S.qu (Z.mv U) ?_
  refine S.qu (Z.bl je U U (bz U)) ?_
  refine S.dd (D.ap 0 je U U (by omega) U (.sl (kz U)) (by first|omega|(simp;omega)) hap (λp17=>?_))
  refine S.qu (Z.as U) ?_
  refine US.nil (UQ.aB ?_)
  refine S.back (k+1,p17) ⟨rfl,rfl,trivial⟩ (.refl _) (by omega) (by omega)
 ·have hkz:k=zN n:=by omega
  subst hkz
  refine S.sq (S.sq (S.rg ?_))
  refine S.qu (Z.mv U) ?_
  refine S.qu (Z.eq (u':=.v (.int .u64 ((n % 64:Nat):Int))) (Z.bi U U U) U) ?_
  refine S.qu (Z.mv U) ?_
  refine S.qu (Z.OX cK U) ?_
  refine S.qu (Z.cv (r:=((zN n+1:Nat):Int)) Tryz.underlying107 U (IntWalk.u64_in _ (by omega)) (by rw[Tryz.underlying3];rfl)) ?_
  refine S.qu (Z.add (r:=((n % 64+(zN n+1):Nat):Int)) U U (by rw[IntWalk.u64_in _ (by omega)];omega)) ?_
  refine S.qu (Z.eq (u':=.v (.int .u64 (((n % 64+(zN n+1))% 64:Nat):Int))) (Z.bi U U U) U) ?_
  refine S.qu (Z.bi U U U) ?_
  refine US.nil (UQ.then ?_)
  refine S.cF U (mJ (by omega)) ?_
  refine UW.exit (UQ.pass (UQ.pass (UQ.here (UQ.then (S.sq (S.rg ?_))))))
  refine S.qu (Z.mv U) ?_
  refine S.qu (Z.mul (r:=((n*8:Nat):Int)) U U (IntWalk.u64_in _ (by omega))) ?_
  refine S.qu (Z.as U) ?_
  refine US.nil (UQ.then (S.sq (S.sq (S.rg ?_))))
  refine S.qu (Z.as U) ?_
  refine US.nil (UQ.then (UW.block ?_))
  refine S.loop (λj:Nat×Nat=>[(5,.v (.int .i64 (7-(j.1:Int)))),(4,.v (.int .u64 ((n*8:Nat):Int))),(3,.own j.2 0 (zN n+1+j.1) 1)]) (λj=>[(j.2,.row 5 1 (bC (128::(List.replicate (zN n) 0++(Qk ((n*8:Nat):Int)).take j.1))))]) (λj=>j.1<=8) (λj=>8-j.1) (0,r) (Nat.zero_le _) ⟨rfl,rfl,rfl,trivial⟩ (by rw[List.take_zero,List.append_nil];exact .refl _) ?_
  rintro⟨i,r2⟩ hi
  dsimp only at hi⊢
  have hrl:=dD (128::(List.replicate (zN n) 0++(Qk ((n*8:Nat):Int)).take i))
  rw[List.length_cons,List.length_append,List.length_replicate,List.length_take,show(Qk ((n*8:Nat):Int)).length=8 from rfl] at hrl
  by_cases D5:i<8
  ·have hap:(bC (128::(List.replicate (zN n) 0++(Qk ((n*8:Nat):Int)).take i))).take (zN n+1+i)++[[.v (.int .u8 (tb ((n*8:Nat):Int) (7-i)))]]=bC (128::(List.replicate (zN n) 0++(Qk ((n*8:Nat):Int)).take (i+1))):=by
    rw[List.take_of_length_le (by omega),<-Cs,List.cons_append,List.append_assoc,VN _ ⟨i,D5⟩]
   refine S.sq (S.sq (S.rg ?_))
   refine S.qu (Z.mv U) ?_
   refine S.qu (Z.bi U U U) ?_
   refine US.nil (UQ.then ?_)
   refine S.cT U (decide_eq_true (by omega)) ?_
   refine UW.skip (UQ.then (S.sq (UW.block (S.rg ?_))))
   refine S.qu (Z.mv U) ?_
   refine S.qu (Z.mv U) ?_
   refine S.qu (Z.mv U) ?_
   refine S.qu (Z.mul (r:=((8*(7-i):Nat):Int)) U U (by rw[IntWalk.i64_in _ (by omega)];omega)) ?_
   refine S.qu (Z.cv (r:=((8*(7-i):Nat):Int)) Tryz.underlying105 U (IntWalk.u64_in _ (by omega)) (by rw[Tryz.underlying3];rfl)) ?_
   refine S.qu (Z.shr U U (by omega) U) ?_
   refine S.qu (Z.cv (r:=tb ((n*8:Nat):Int) (7-i)) Tryz.underlying5 U U (by rw[Tryz.underlying107];rfl)) ?_
   refine S.qu (Z.bl je U U (bz U)) ?_
   refine S.dd (D.ap 0 je U U (by omega) U (.sl (kz U)) (by first|omega|(simp;omega)) hap (λp32=>?_))
   refine S.qu (Z.as U) ?_
   refine US.nil (UQ.aB (UQ.then (S.rg ?_)))
   refine S.qu (Z.mv U) ?_
   refine S.qu (Z.sub (r:=7-((i+1:Nat):Int)) U U (by rw[IntWalk.i64_in _ (by omega)];omega)) ?_
   refine S.qu (Z.as U) ?_
   refine US.nil ?_
   refine S.back (i+1,p32) ⟨rfl,rfl,rfl,trivial⟩ (.refl _) (by omega) (by omega)
  ·have hi8:i=8:=by omega
   subst hi8
   refine S.sq (S.sq (S.rg ?_))
   refine S.qu (Z.mv U) ?_
   refine S.qu (Z.bi U U U) ?_
   refine US.nil (UQ.then ?_)
   refine S.cF U (decide_eq_false (by omega)) ?_
   refine UW.exit (UQ.pass (UQ.pass (UQ.here (UQ.then (S.sq (S.rg ?_))))))
   refine S.qu (Z.mv U) ?_
   refine S.qu (Z.as U) ?_
   refine US.fV 2 0 (rs:=bC (jS n)) U U (by omega) (by rw[List.drop_zero];exact List.take_of_length_le (by omega)) ?_
   refine US.nil (UQ.then (UW.ret ?_))
   refine S.bH (λ_=>ak U U) ?_
   rfl
def Cw(h:W8)(left:List Int)(n:Nat):List AV:=jr h.l++[.sl (bC left),.v (.int .u64 (n:Int))]
def W0:W8:=⟨0x6a09e667,0xbb67ae85,0x3c6ef372,0xa54ff53a,0x510e527f,0x9b05688c,0x1f83d9ab,0x5be0cd19⟩
theorem VO(H:Hp):au Tryz.prog 176 [] H (λu H'=>∃news,aP H news/\H'=aD H news/\∃p,u=.ptr p 0/\news=[(p,.box 207 (Cw W0 [] 0))]):=by
 refine aF (n:=4) (H0:=H) (I:=[]) Tryz.func176 (by kernel_rfl) U (by rw[Tryz.ntmps176];rfl) .nil ?_
 refine S.sq (S.rg ?_)
 refine S.qu (Z.as U) ?_
 refine US.nil (UQ.then (S.sq (S.rg ?_)))
 refine S.qu (Z.bar mM XF U U U U U) ?_
 refine S.qu (Z.bd [0] bt207 U U U U U U) ?_
 refine S.dd (D.box U U U (λp3=>?_))
 refine S.qu (Z.as U) ?_
 refine US.nil (UQ.then (UW.ret ?_))
 exact bR [_] (λ_=>ak U U) (.refl _) λhd=>⟨_,hd,rfl,p3,rfl,rfl⟩
def GrowR(u:AV)(news:List (Nat×Ob)):Prop:=∃p m,u=.own p 0 0 1/\news=[(p,.row 5 1 (bC (List.replicate m 0)))]
theorem TK(m:Nat)(hm:m<=140737488355328)(H:Hp):au Tryz.prog 255 [.v (.slice none 0 0),.v (.int .i64 (m:Int))] H (λu H'=>∃news,aP H news/\H'=aD H news/\GrowR u news):=by
 by_cases h0:0<m
 ·refine aF (n:=27) (H0:=H) (I:=[]) Tryz.func255 (by kernel_rfl) U (by rw[Tryz.ntmps255];rfl) .nil ?_
  refine S.sq (S.rg ?_)
  refine S.qu (Z.as U) ?_
  refine US.nil (UQ.then (S.sq (S.sq (S.rg ?_))))
  refine S.qu (Z.mv U) ?_
  refine S.qu (Z.bi U U U) ?_
  refine US.nil (UQ.then ?_)
  refine S.cF U (decide_eq_false (by omega)) ?_
  refine UW.skip (UQ.then (S.sq (S.sq (S.rg ?_))))
  refine S.qu (Z.mv U) ?_
  refine S.qu (Z.mv U) ?_
  refine S.qu (Z.cpn cK U) ?_
  refine S.qu (Z.mv U) ?_
  refine S.qu (Z.lnn cK U) ?_
  refine S.qu (Z.sub (r:=0) U U U) ?_
  refine S.qu (Z.sub (r:=(m:Int)) U U (by rw[Int.sub_zero];exact IntWalk.i64_in _ (by omega))) ?_
  refine S.qu (Z.as U) ?_
  refine US.nil (UQ.then (S.sq (S.rg ?_)))
  refine S.qu (Z.mv U) ?_
  refine S.qu (Z.bi U U U) ?_
  refine US.nil (UQ.then ?_)
  refine S.cT U (decide_eq_true (by omega)) ?_
  refine S.rg ?_
  refine S.qu (Z.mv U) ?_
  refine S.qu (Z.mv U) ?_
  refine S.qu (Z.cpn cK U) ?_
  refine S.qu (Z.sln cK U U) ?_
  refine S.qu (Z.mv U) ?_
  refine S.dd (D.azz m Tryz.underlying3 U U h0 hm (λp22=>?_))
  refine S.qu (Z.mv U) ?_
  refine S.qu (Z.lnn cK U) ?_
  refine S.qu (Z.Ee (m:=0) (m':=0) cK U (.hi U) (by omega) (by omega)) ?_
  refine S.qu (Z.as U) ?_
  refine US.nil (UQ.then (S.sq (S.rg ?_)))
  refine S.qu (Z.mv U) ?_
  refine S.qu (Z.as U) ?_
  refine US.nil (UQ.then (UW.ret ?_))
  exact bR [_] (λ_=>ak U U) (.refl _) λhd=>⟨_,hd,rfl,p22,m,rfl,rfl⟩
 ·have hm0:m=0:=by omega
  subst hm0
  refine aF (n:=27) (H0:=H) (I:=[]) Tryz.func255 (by kernel_rfl) U (by rw[Tryz.ntmps255];rfl) .nil ?_
  refine S.sq (S.rg ?_)
  refine S.qu (Z.as U) ?_
  refine US.nil (UQ.then (S.sq (S.sq (S.rg ?_))))
  refine S.qu (Z.mv U) ?_
  refine S.qu (Z.bi U U U) ?_
  refine US.nil (UQ.then ?_)
  refine S.cF U (decide_eq_false (by omega)) ?_
  refine UW.skip (UQ.then (S.sq (S.sq (S.rg ?_))))
  refine S.qu (Z.mv U) ?_
  refine S.qu (Z.mv U) ?_
  refine S.qu (Z.cpn cK U) ?_
  refine S.qu (Z.mv U) ?_
  refine S.qu (Z.lnn cK U) ?_
  refine S.qu (Z.sub (r:=0) U U U) ?_
  refine S.qu (Z.sub (r:=0) U U U) ?_
  refine S.qu (Z.as U) ?_
  refine US.nil (UQ.then (S.sq (S.rg ?_)))
  refine S.qu (Z.mv U) ?_
  refine S.qu (Z.bi U U U) ?_
  refine US.nil (UQ.then ?_)
  refine S.cF U (decide_eq_false (by omega)) ?_
  refine UW.skip (UQ.then (S.sq (S.rg ?_)))
  refine S.qu (Z.mv U) ?_
  refine US.kZ 26 5 1 (by decide) U (λp26=>?_)
  refine S.qu (Z.as U) ?_
  refine US.nil (UQ.then (UW.ret ?_))
  exact bR [_] (λ_=>ak U U) (.refl _) λhd=>⟨_,hd,rfl,p26,0,rfl,rfl⟩
def Lt(ps:List (List Int)):List (List AV):=ps.map λp=>[.sl (bC p)]
theorem Nz(ps:List (List Int))(j:Nat)(h:j<ps.length):(Lt ps)[j]? =some [.sl (bC (ps.getD j []))]:=by
 unfold Lt
 rw[List.getElem?_map,List.getElem?_eq_getElem h,List.getD_eq_getElem?_getD,List.getElem?_eq_getElem h];rfl
theorem I7(ps:List (List Int))(j:Nat)(h:j<ps.length):(ps.take (j+1)).flatten=(ps.take j).flatten++ps.getD j []:=by
 rw[List.take_add_one,List.getElem?_eq_getElem h,List.flatten_append,List.getD_eq_getElem?_getD,List.getElem?_eq_getElem h];simp
theorem Ej(ps:List (List Int))(j:Nat):(ps.take j).flatten.length<=ps.flatten.length:=by
 have h:ps.flatten=(ps.take j).flatten++(ps.drop j).flatten:=by rw[<-List.flatten_append,List.take_append_drop]
 rw[h,List.length_append];omega
theorem NA(ps:List (List Int))(hl:ps.length<=1000)(hs:ps.flatten.length<=100000000000)(H:Hp):au Tryz.prog 218 [.sl (Lt ps)] H (bB H (.sl (bC ps.flatten))):=by
 have hpl:(Lt ps).length=ps.length:=List.length_map ..
 refine aF (n:=36) (H0:=H) (I:=[]) Tryz.func218 (by kernel_rfl) U (by rw[Tryz.ntmps218];rfl) .nil ?_
 refine S.sq (S.rg ?_)
 refine S.qu (Z.as U) ?_
 refine US.nil (UQ.then (S.sq (S.rg ?_)))
 refine S.qu (Z.as U) ?_
 refine US.nil (UQ.then (S.sq (S.sq (S.rg ?_))))
 refine S.qu (Z.mv U) ?_
 refine S.qu (Z.fM M6 U) ?_
 refine S.qu (Z.mv U) ?_
 refine US.nil (UQ.then (UW.block ?_))
 refine S.loop (λj:Nat=>[(11,.v (.int .i64 (j:Int))),(10,.v (.int .i64 ((Lt ps).length:Int))),(9,.sl (Lt ps)),(3,.v (.int .i64 ((ps.take j).flatten.length:Int))),(0,.sl (Lt ps))]) (λ_=>[]) (λj=>j<=ps.length) (λj=>ps.length-j) 0 (Nat.zero_le _) ⟨rfl,rfl,rfl,rfl,rfl,trivial⟩ (.refl _) ?_
 intro j hj
 have hfl:=Ej ps j
 by_cases hlt:j<ps.length
 ·have hg:=Nz ps j hlt
  have hsn:=I7 ps j hlt
  have hfl1:=Ej ps (j+1)
  have hsl:=congrArg List.length hsn
  rw[List.length_append] at hsl
  have hbl:=dD (ps.getD j [])
  refine S.sq (S.rg ?_)
  refine S.qu (Z.bi U U U) ?_
  refine US.nil (UQ.then (S.sq ?_))
  refine S.cT U (decide_eq_true (by omega)) ?_
  refine UW.skip (UQ.then (S.sq (UW.block (S.sq (S.rg ?_)))))
  refine S.qu (Z.ia M6 U U (by omega) hg (by rfl)) ?_
  refine S.qu (Z.fO ET U) ?_
  refine S.qu (Z.as U) ?_
  refine US.nil (UQ.then (S.sq (S.rg ?_)))
  refine S.qu (Z.mv U) ?_
  refine S.qu (Z.mv U) ?_
  refine S.qu (Z.fM cK U) ?_
  refine S.qu (Z.add (r:=(((ps.take (j+1)).flatten.length:Nat):Int)) U U (by rw[IntWalk.i64_in _ (by omega)];omega)) ?_
  refine S.qu (Z.as U) ?_
  refine US.nil (UQ.then (S.sq (S.rg ?_)))
  refine S.qu (Z.mv U) ?_
  refine S.qu (Z.bi U U U) ?_
  refine US.nil (UQ.then ?_)
  refine S.cF U (decide_eq_false (by omega)) ?_
  refine UW.skip (UQ.aB (UQ.then (S.rg ?_)))
  refine S.qu (Z.add (r:=((j+1:Nat):Int)) U U (IntWalk.i64_in _ (by omega))) ?_
  refine S.qu (Z.mv U) ?_
  refine US.nil ?_
  refine S.back _ ⟨rfl,rfl,rfl,rfl,rfl,trivial⟩ (.refl _) (by omega) (by omega)
 ·have hjl:j=ps.length:=by omega
  subst hjl
  rw[List.take_length]
  refine S.sq (S.rg ?_)
  refine S.qu (Z.bi U U U) ?_
  refine US.nil (UQ.then (S.sq ?_))
  refine S.cF U (decide_eq_false (by omega)) ?_
  refine UW.exit (UQ.pass (UQ.pass (UQ.here (UQ.then (S.sq (S.rg ?_))))))
  refine S.qu (Z.mv U) ?_
  refine S.dd (D.cn U U (λ_=>TK ps.flatten.length (by omega) _) ?_)
  rintro _ _ ⟨p24,m24,rfl,rfl⟩
  refine S.qu (Z.as U) ?_
  refine US.nil (UQ.then (S.sq (S.sq (S.rg ?_))))
  refine S.qu (Z.mv U) ?_
  refine S.qu (Z.fM M6 U) ?_
  refine S.qu (Z.mv U) ?_
  refine US.nil (UQ.then (UW.block ?_))
  refine S.loop (λj:Nat×Nat×List (List AV)=>[(27,.v (.int .i64 (j.1:Int))),(26,.v (.int .i64 ((Lt ps).length:Int))),(25,.sl (Lt ps)),(6,.own j.2.1 0 (ps.take j.1).flatten.length 1)]) (λj=>[(j.2.1,.row 5 1 j.2.2)]) (λj=>j.1<=ps.length/\j.2.2.take (ps.take j.1).flatten.length=bC (ps.take j.1).flatten/\(ps.take j.1).flatten.length<=j.2.2.length) (λj=>ps.length-j.1) (0,p24,bC (List.replicate m24 0)) ⟨Nat.zero_le _,rfl,Nat.zero_le _⟩ ⟨rfl,rfl,rfl,rfl,trivial⟩ (.refl _) ?_
  rintro⟨j,r,R⟩ ⟨hj,hR,hRl⟩
  dsimp only at hj hR hRl⊢
  have hfl:=Ej ps j
  by_cases hlt:j<ps.length
  ·have hg:=Nz ps j hlt
   have hsn:=I7 ps j hlt
   have hfl1:=Ej ps (j+1)
   have hsl:=congrArg List.length hsn
   rw[List.length_append] at hsl
   have hbl:=dD (ps.getD j [])
   have hbs:=lJ (ps.getD j [])
   have hap:R.take (ps.take j).flatten.length++bC (ps.getD j [])=bC (ps.take (j+1)).flatten:=by rw[hR,<-Gu,<-hsn]
   have hn:=dD (ps.take (j+1)).flatten
   have hln:(ps.take j).flatten.length+(bC (ps.getD j [])).length=(ps.take (j+1)).flatten.length:=by omega
   refine S.sq (S.rg ?_)
   refine S.qu (Z.bi U U U) ?_
   refine US.nil (UQ.then (S.sq ?_))
   refine S.cT U (decide_eq_true (by omega)) ?_
   refine UW.skip (UQ.then (S.sq (UW.block (S.sq (S.rg ?_)))))
   refine S.qu (Z.ia M6 U U (by omega) hg (by rfl)) ?_
   refine S.qu (Z.fO ET U) ?_
   refine S.qu (Z.as U) ?_
   refine US.nil (UQ.then (S.rg ?_))
   refine S.qu (Z.mv U) ?_
   refine S.qu (Z.mv U) ?_
   refine S.dd (D.ap 0 je U U hRl U (.sl hbs) (by omega) hap (λp33=>?_))
   rw[hln]
   refine S.qu (Z.as U) ?_
   refine US.nil (UQ.aB (UQ.then (S.rg ?_)))
   refine S.qu (Z.add (r:=((j+1:Nat):Int)) U U (IntWalk.i64_in _ (by omega))) ?_
   refine S.qu (Z.mv U) ?_
   refine US.nil ?_
   refine S.back (j+1,p33,bC (ps.take (j+1)).flatten) ⟨rfl,rfl,rfl,rfl,trivial⟩ (.refl _) ?_ (by omega)
   exact⟨by show j+1<=ps.length;omega,List.take_of_length_le (by show(bC (ps.take (j+1)).flatten).length<=(ps.take (j+1)).flatten.length;omega),by show(ps.take (j+1)).flatten.length<=(bC (ps.take (j+1)).flatten).length;omega⟩
  ·have hjl:j=ps.length:=by omega
   subst hjl
   rw[List.take_length] at hR hRl⊢
   refine S.sq (S.rg ?_)
   refine S.qu (Z.bi U U U) ?_
   refine US.nil (UQ.then (S.sq ?_))
   refine S.cF U (decide_eq_false (by omega)) ?_
   refine UW.exit (UQ.pass (UQ.pass (UQ.here (UQ.then (S.sq (S.rg ?_))))))
   refine S.qu (Z.mv U) ?_
   refine S.qu (Z.as U) ?_
   refine US.fV 2 0 (rs:=bC ps.flatten) U U (by omega) (by rw[List.drop_zero];exact hR) ?_
   refine US.nil (UQ.then (UW.ret ?_))
   refine S.bH (λ_=>ak U U) ?_
   rfl
theorem NB(b:List Int)(hb:b.length<=100000000000)(H:Hp):au Tryz.prog 219 [.sl (bC b)] H (bB H (.sl (bC b))):=by
 have hbl:=dD b
 have hbs:=lJ b
 refine aF (n:=8) (H0:=H) (I:=[]) Tryz.func219 (by kernel_rfl) U (by rw[Tryz.ntmps219];rfl) .nil ?_
 refine S.sq (S.rg ?_)
 refine S.qu (Z.as U) ?_
 refine US.kZ 2 5 1 (by decide) U (λp2=>?_)
 refine US.nil (UQ.then (S.sq (S.sq (S.rg ?_))))
 refine S.qu (Z.mv U) ?_
 refine S.dd (D.eqn Tryz.underlying22 U (λc4 h4=>?_))
 refine US.nil (UQ.then ?_)
 refine S.cB U (λhc4=>?_) (λhc4=>?_)
 refine S.sq (S.rg ?_)
 refine S.qu (Z.as U) ?_
 refine US.kZ 2 5 1 (by decide) U (λp2=>?_)
 refine US.fV 2 0 (rs:=bC b) U U (by first|decide|omega) (by first|(rw[h4 hc4];rfl)|(rw[List.drop_zero];exact List.take_of_length_le (by omega))) ?_
 refine US.nil (UQ.then (UW.ret (UQ.ax ?_)))
 refine S.bH (λ_=>ak U U) ?_
 rfl
 refine UW.skip (UQ.then (S.sq (S.rg ?_)))
 refine S.dd (D.lit je U U (bz U) (λp5=>?_))
 refine S.qu (Z.mv U) ?_
 refine S.dd (D.ap 0 je U U (by decide) U (.sl hbs) (by omega) (rws:=bC b) U (λp7=>?_))
 refine S.qu (Z.as U) ?_
 refine US.fV 2 0 (rs:=bC b) U U (by first|decide|omega) (by first|(rw[h4 hc4];rfl)|(rw[List.drop_zero];exact List.take_of_length_le (by omega))) ?_
 refine US.nil (UQ.then (UW.ret ?_))
 refine S.bH (λ_=>ak U U) ?_
 rfl
end Go.Proofs.YtonpfomjoiaacaaGreatDoor
end
