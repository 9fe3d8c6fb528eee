/- A part of the proof. -/
import Derived.Test.YtonpfomjoiaacaaGreatDoorMz29
set_option maxRecDepth 100000
set_option maxHeartbeats 4000000
set_option linter.unusedSectionVars false
set_option linter.unusedVariables false
set_option linter.unusedSimpArgs false
section
namespace Go.Proofs.YtonpfomjoiaacaaGreatDoor
open Go Go.fT Go.RowKit
theorem AA(b:List Int)(x:Int):bf (b++[x])=bf b++[[.v (.int .u8 x)]]:=by unfold bf;rw[List.map_append];rfl
theorem ED(a b:List Int):bf (a++b)=bf a++bf b:=by unfold bf;rw[List.map_append]
theorem zw(b:List Int)(j:Nat)(x:Int):(bf b).set j [.v (.int .u8 x)]=bf (b.set j x):=by unfold bf;rw[List.map_set]
theorem LC(m:Nat):List.replicate m [.v (.int .u8 0)]=bf (List.replicate m 0):=by unfold bf;rw[List.map_replicate]
theorem AB(b:List Int)(j:Nat):(bf b).take j=bf (b.take j):=by unfold bf;rw[List.map_take]
theorem AJ(b:List Int)(j:Nat):(bf b).drop j=bf (b.drop j):=by unfold bf;rw[List.map_drop]
def zN(n:Nat):Nat:=(119-n % 64)% 64
def tb(v:Int)(i:Nat):Int:=IntKind.u8.wrap (v.fdiv (2^min (8*i) 64))
def OC(v:Int):List Int:=[tb v 7,tb v 6,tb v 5,tb v 4,tb v 3,tb v 2,tb v 1,tb v 0]
def jr(n:Nat):List Int:=128::(List.replicate (zN n) 0++OC ((n*8:Nat):Int))
theorem AL(n:Nat):(jr n).length=9+zN n:=by unfold jr OC;simp;omega
theorem tb_bd(v:Int)(i:Nat):0<=tb v i/\tb v i<256:=by unfold tb;rw[IntKind.wrap_u8];omega
theorem LD(n:Nat):eO (jr n):=by
 intro c hc
 unfold jr at hc
 rcases List.mem_cons.1 hc with rfl|hc
 ·decide
 ·rcases List.mem_append.1 hc with hc|hc
  ·rw[List.eq_of_mem_replicate hc];decide
  ·unfold OC at hc
   simp only[List.mem_cons,List.mem_nil_iff,or_false] at hc
   rcases hc with rfl|rfl|rfl|rfl|rfl|rfl|rfl|rfl<;>exact tb_bd _ _
theorem Ub(v:Int):∀i:Fin 8,(OC v).drop (7-i.val)=tb v i.val::(OC v).drop (8-i.val):=by
 rintro⟨i,hi⟩
 match i,hi with
 |0,_=>rfl
 |1,_=>rfl
 |2,_=>rfl
 |3,_=>rfl
 |4,_=>rfl
 |5,_=>rfl
 |6,_=>rfl
 |7,_=>rfl
theorem Uc(v:Int):∀i:Fin 8,(OC v).take (i.val+1)=(OC v).take i.val++[tb v (7-i.val)]:=by
 rintro⟨i,hi⟩
 match i,hi with
 |0,_=>rfl
 |1,_=>rfl
 |2,_=>rfl
 |3,_=>rfl
 |4,_=>rfl
 |5,_=>rfl
 |6,_=>rfl
 |7,_=>rfl
def qV(n i:Nat):List Int:=128::(List.replicate (zN n+(8-i)) 0++(OC ((n*8:Nat):Int)).drop (8-i))
theorem Rm(n i:Nat)(hi:i<8):(qV n i).set (zN n+8-i) (tb ((n*8:Nat):Int) i)=qV n (i+1):=by
 unfold qV
 have hd:=Ub ((n*8:Nat):Int) ⟨i,hi⟩
 simp only at hd
 rw[show zN n+8-i=(zN n+(7-i))+1 from by omega,List.set_cons_succ,show 8-(i+1)=7-i from by omega,hd]
 congr 1
 rw[List.set_append_left _ _ (by rw[List.length_replicate];omega)]
 have e:(List.replicate (zN n+(8-i)) (0:Int)).set (zN n+(7-i)) (tb ((n*8:Nat):Int) i)=List.replicate (zN n+(7-i)) 0++[tb ((n*8:Nat):Int) i]:=by
  rw[show zN n+(8-i)=(zN n+(7-i))+1 from by omega,List.replicate_succ',List.set_append_right _ _ (by rw[List.length_replicate];omega),List.length_replicate,Nat.sub_self]
  rfl
 rw[e,List.append_assoc]
 rfl
theorem Rn(n i:Nat)(hi:i<=8):(qV n i).length=9+zN n:=by unfold qV OC;simp;omega
theorem X3(n:Nat):qV n 0=128::List.replicate (zN n+8) 0:=by unfold qV OC;simp
theorem D.mkz{n:Nat}{ops:Array Oper}{H0:Hp}{K:AV->List (Nat×Ob)->Prop}{l:List (Nat×AV)}{I:List (Nat×Ob)}{x y:Operand}{dst:Option Nat}{ty:TypeId}{ps:String}{af:Array Edge}{ki kj:IntKind}(m:Nat)(hx:aT l x=some (.v (.int ki (m:Int))))(hy:aT l y=some (.v (.int kj (m:Int))))(hb:m<=140737488355328)(hk:∀id,K (.own id 0 m 1) ((id,.row 5 1 (bf (List.replicate m 0)))::I)):DS Tryz.prog n ops H0 ⟨dst,.makeSlice 22 x y,ty,ps,af,none⟩ l I K:=
 D.mks m iK hx hy z5 (by omega) (λid=>by rw[LC];exact hk id)
theorem D.azz{n tn:Nat}{ops:Array Oper}{H0:Hp}{K:AV->List (Nat×Ob)->Prop}{l:List (Nat×AV)}{I:List (Nat×Ob)}{x y:Operand}{dst:Option Nat}{ty:TypeId}{ps:String}{af:Array Edge}{kq kn:IntKind}(m:Nat)(htn:Tryz.prog.underlying tn=some (.int kn))(hx:aT l x=some (.v (.slice none 0 0)))(hy:aT l y=some (.v (.int kq (m:Int))))(h0:0<m)(hb:m<=140737488355328)(hk:∀id,K (.own id 0 m 1) ((id,.row 5 1 (bf (List.replicate m 0)))::I)):DS Tryz.prog n ops H0 ⟨dst,.call {callee:=.builtin .append,args:= #[x,y],argTypes:= #[22,tn]},ty,ps,af,none⟩ l I K:=
 D.azn m iK htn hx hy h0 z5 (by omega) (λid=>by rw[LC];exact hk id)
theorem Ro(n:Nat)(hn:n<=100000000000)(H:Hp):au Tryz.prog 221 [.v (.int .u64 (n:Int))] H (bz H (.sl (bf (jr n)))):=by
 have hz:zN n=(119-n % 64)% 64:=rfl
 have hzl:zN n<64:=by omega
 have e10:((119:Int)-((n % 64:Nat):Int)).tmod 64=((zN n:Nat):Int):=by
  rw[Int.tmod_eq_emod_of_nonneg (by omega),hz];omega
 have h0:(bf (List.replicate (1+zN n+8) 0)).set 0 [.v (.int .u8 128)]=bf (qV n 0):=by
  rw[zw,X3,show 1+zN n+8=(zN n+8)+1 from by omega,List.replicate_succ,List.set_cons_zero]
 have hrs:=kC (List.replicate (1+zN n+8) 0)
 have hrl:=bY (List.replicate (1+zN n+8) 0)
 rw[List.length_replicate] at hrl
 refine aF (n:=35) (H0:=H) (I:=[]) Tryz.func221 (by kernel_rfl) U (by rw[Tryz.ntmps221];rfl) .nil ?_
 refine S.sq (S.rg ?_)
 refine S.qu (Z.as U) ?_
 refine US.nil (UQ.then (S.sq (S.rg ?_)))
 refine S.qu (Z.mv U) ?_
 refine S.qu (Z.eq (u':=.v (.int .u64 ((n % 64:Nat):Int))) (Z.bi U U U) U) ?_
 refine S.qu (Z.cv (r:=((n % 64:Nat):Int)) Tryz.underlying3 U (IntWalk.i64_in _ (by omega)) (by rw[Tryz.underlying107];rfl)) ?_
 refine S.qu (Z.sub U U (IntWalk.i64_in _ (by omega))) ?_
 refine S.qu (Z.eq (u':=.v (.int .i64 ((zN n:Nat):Int))) (Z.bi U U U) (by rw[e10])) ?_
 refine S.qu (Z.as U) ?_
 refine US.nil (UQ.then (S.sq (S.rg ?_)))
 refine S.qu (Z.mv U) ?_
 refine S.qu (Z.add (r:=((1+zN n:Nat):Int)) U U (by rw[IntWalk.i64_in _ (by omega)];omega)) ?_
 refine S.qu (Z.add (r:=((1+zN n+8:Nat):Int)) U U (by rw[IntWalk.i64_in _ (by omega)];omega)) ?_
 refine S.dd (D.mkz (1+zN n+8) U U (by omega) (λp14=>?_))
 refine S.qu (Z.as U) ?_
 refine US.nil (UQ.then (S.sq (S.rg ?_)))
 refine S.qu (Z.mv U) ?_
 refine S.qu (Z.io bR U U (by omega) (by omega)) ?_
 refine S.s (D.sre 0 (m:=0) nM U U U (by omega) U U U U hrs h0 (λ_=>?_))
 refine US.nil (UQ.then (S.sq (S.sq (S.rg ?_))))
 refine S.qu (Z.mv U) ?_
 refine US.nil (UQ.then (UW.block ?_))
 refine S.loop (λi:Nat=>[(17,.v (.int .i64 (i:Int))),(4,.own p14 0 (1+zN n+8) 1),(0,.v (.int .u64 (n:Int)))]) (λi=>[(p14,.row 5 1 (bf (qV n i)))]) (λi=>i<=8) (λi=>8-i) 0 (Nat.zero_le _) ⟨rfl,rfl,rfl,trivial⟩ (.refl _) ?_
 intro i hi
 have hus:=kC (qV n i)
 have Zq:=bY (qV n i)
 rw[Rn n i hi] at Zq
 by_cases hlt:i<8
 ·have hset:(bf (qV n i)).set (zN n+8-i) [.v (.int .u8 (tb ((n*8:Nat):Int) i))]=bf (qV n (i+1)):=by rw[zw,Rm n i hlt]
  refine S.sq (S.rg ?_)
  refine S.qu (Z.bi U U U) ?_
  refine US.nil (UQ.then (S.sq ?_))
  refine S.cT U (decide_eq_true (by omega)) ?_
  refine UW.skip (UQ.then (S.sq (UW.block (S.sq (S.rg ?_)))))
  refine S.qu (Z.mv U) ?_
  refine S.qu (Z.as U) ?_
  refine US.nil (UQ.then (S.rg ?_))
  refine S.qu (Z.mv U) ?_
  refine S.qu (Z.mv U) ?_
  refine S.qu (Z.M8 bR U) ?_
  refine S.qu (Z.sub U U (IntWalk.i64_in _ (by omega))) ?_
  refine S.qu (Z.mv U) ?_
  refine S.qu (Z.sub U U (IntWalk.i64_in _ (by omega))) ?_
  refine S.qu (Z.mv U) ?_
  refine S.qu (Z.mul (r:=((n*8:Nat):Int)) U U (IntWalk.u64_in _ (by omega))) ?_
  refine S.qu (Z.mv U) ?_
  refine S.qu (Z.mul (r:=((8*i:Nat):Int)) U U (IntWalk.i64_in _ (by omega))) ?_
  refine S.qu (Z.shr U U (by omega) U) ?_
  refine S.qu (Z.cv (r:=tb ((n*8:Nat):Int) i) Tryz.underlying5 U U (by rw[Tryz.underlying107];rfl)) ?_
  refine S.qu (Z.io bR U U (by omega) (by omega)) ?_
  refine S.s (D.sre 0 (m:=zN n+8-i) nM U U (by omega) (by omega) U U U U hus hset (λ_=>?_))
  refine US.nil (UQ.aB (UQ.then (S.rg ?_)))
  refine S.qu (Z.add (r:=((i+1:Nat):Int)) U U (IntWalk.i64_in _ (by omega))) ?_
  refine S.qu (Z.mv U) ?_
  refine US.nil ?_
  refine S.back _ ⟨rfl,rfl,rfl,trivial⟩ (.refl _) (by omega) (by omega)
 ·have hi8:i=8:=by omega
  subst hi8
  refine S.sq (S.rg ?_)
  refine S.qu (Z.bi U U U) ?_
  refine US.nil (UQ.then (S.sq ?_))
  refine S.cF U (decide_eq_false (by omega)) ?_
  refine UW.exit (UQ.pass (UQ.pass (UQ.here (UQ.then (S.sq (S.rg ?_))))))
  refine S.qu (Z.mv U) ?_
  refine S.qu (Z.as U) ?_
  refine US.gG 2 0 (rs:=bf (jr n)) U U (by omega) (by rw[List.drop_zero];exact List.take_of_length_le (by omega)) ?_
  refine US.nil (UQ.then (UW.ret ?_))
  refine S.bK (λ_=>ak U U) ?_
  rfl
theorem tailK(n k:Nat):bf (128::List.replicate k 0)++[[.v (.int .u8 0)]]=bf (128::List.replicate (k+1) 0):=by
 rw[<-AA,List.cons_append,<-List.replicate_succ']
theorem OD(n:Nat)(hn:n<=100000000000)(H:Hp):au Tryz.prog 106 [.v (.int .u64 (n:Int))] H (bz H (.sl (bf (jr n)))):=by
 have hz:zN n=(119-n % 64)% 64:=rfl
 have hzl:zN n<64:=by omega
 refine aF (n:=34) (H0:=H) (I:=[]) Tryz.func106 (by kernel_rfl) U (by rw[Tryz.ntmps106];rfl) .nil ?_
 refine S.sq (S.rg ?_)
 refine S.qu (Z.as U) ?_
 refine US.nil (UQ.then (S.sq (S.rg ?_)))
 refine S.dd (D.lit iK U U (bA U) (λp6=>?_))
 refine S.qu (Z.as U) ?_
 refine US.nil (UQ.then (S.sq (UW.block ?_)))
 refine S.loop (λj:Nat×Nat=>[(3,.own j.2 0 (j.1+1) 1),(0,.v (.int .u64 (n:Int)))]) (λj=>[(j.2,.row 5 1 (bf (128::List.replicate j.1 0)))]) (λj=>j.1<=zN n) (λj=>zN n-j.1) (0,p6) (Nat.zero_le _) ⟨rfl,rfl,trivial⟩ (.refl _) ?_
 rintro⟨k,r⟩ hk
 dsimp only at hk⊢
 have hrl:=bY (128::List.replicate k 0)
 rw[List.length_cons,List.length_replicate] at hrl
 have hap:(bf (128::List.replicate k 0)).take (k+1)++[[.v (.int .u8 0)]]=bf (128::List.replicate (k+1) 0):=by rw[List.take_of_length_le (by omega),tailK n k]
 by_cases hlt:k<zN n
 ·refine S.sq (S.sq (S.rg ?_))
  refine S.qu (Z.mv U) ?_
  refine S.qu (Z.eq (u':=.v (.int .u64 ((n % 64:Nat):Int))) (Z.bi U U U) U) ?_
  refine S.qu (Z.mv U) ?_
  refine S.qu (Z.M8 bR U) ?_
  refine S.qu (Z.cv (r:=((k+1:Nat):Int)) Tryz.underlying107 U (IntWalk.u64_in _ (by omega)) (by rw[Tryz.underlying3];rfl)) ?_
  refine S.qu (Z.add (r:=((n % 64+(k+1):Nat):Int)) U U (by rw[IntWalk.u64_in _ (by omega)];omega)) ?_
  refine S.qu (Z.eq (u':=.v (.int .u64 (((n % 64+(k+1))% 64:Nat):Int))) (Z.bi U U U) U) ?_
  refine S.qu (Z.bi U U U) ?_
  refine US.nil (UQ.then ?_)
  refine S.cT U (uh (by omega)) ?_
  refine UW.skip (UQ.then (UW.block (S.rg ?_)))
  refine S.qu (Z.mv U) ?_
  refine S.qu (Z.bl iK U U (bA U)) ?_
  refine S.dd (D.ap 0 iK U U (by omega) U (.sl (j3 U)) (by first|omega|(simp;omega)) hap (λp17=>?_))
  refine S.qu (Z.as U) ?_
  refine US.nil (UQ.aB ?_)
  refine S.back (k+1,p17) ⟨rfl,rfl,trivial⟩ (.refl _) (by omega) (by omega)
 ·have hkz:k=zN n:=by omega
  subst hkz
  refine S.sq (S.sq (S.rg ?_))
  refine S.qu (Z.mv U) ?_
  refine S.qu (Z.eq (u':=.v (.int .u64 ((n % 64:Nat):Int))) (Z.bi U U U) U) ?_
  refine S.qu (Z.mv U) ?_
  refine S.qu (Z.M8 bR U) ?_
  refine S.qu (Z.cv (r:=((zN n+1:Nat):Int)) Tryz.underlying107 U (IntWalk.u64_in _ (by omega)) (by rw[Tryz.underlying3];rfl)) ?_
  refine S.qu (Z.add (r:=((n % 64+(zN n+1):Nat):Int)) U U (by rw[IntWalk.u64_in _ (by omega)];omega)) ?_
  refine S.qu (Z.eq (u':=.v (.int .u64 (((n % 64+(zN n+1))% 64:Nat):Int))) (Z.bi U U U) U) ?_
  refine S.qu (Z.bi U U U) ?_
  refine US.nil (UQ.then ?_)
  refine S.cF U (nL (by omega)) ?_
  refine UW.exit (UQ.pass (UQ.pass (UQ.here (UQ.then (S.sq (S.rg ?_))))))
  refine S.qu (Z.mv U) ?_
  refine S.qu (Z.mul (r:=((n*8:Nat):Int)) U U (IntWalk.u64_in _ (by omega))) ?_
  refine S.qu (Z.as U) ?_
  refine US.nil (UQ.then (S.sq (S.sq (S.rg ?_))))
  refine S.qu (Z.as U) ?_
  refine US.nil (UQ.then (UW.block ?_))
  refine S.loop (λj:Nat×Nat=>[(5,.v (.int .i64 (7-(j.1:Int)))),(4,.v (.int .u64 ((n*8:Nat):Int))),(3,.own j.2 0 (zN n+1+j.1) 1)]) (λj=>[(j.2,.row 5 1 (bf (128::(List.replicate (zN n) 0++(OC ((n*8:Nat):Int)).take j.1))))]) (λj=>j.1<=8) (λj=>8-j.1) (0,r) (Nat.zero_le _) ⟨rfl,rfl,rfl,trivial⟩ (by rw[List.take_zero,List.append_nil];exact .refl _) ?_
  rintro⟨i,r2⟩ hi
  dsimp only at hi⊢
  have hrl:=bY (128::(List.replicate (zN n) 0++(OC ((n*8:Nat):Int)).take i))
  rw[List.length_cons,List.length_append,List.length_replicate,List.length_take,show(OC ((n*8:Nat):Int)).length=8 from rfl] at hrl
  by_cases Cc:i<8
  ·have hap:(bf (128::(List.replicate (zN n) 0++(OC ((n*8:Nat):Int)).take i))).take (zN n+1+i)++[[.v (.int .u8 (tb ((n*8:Nat):Int) (7-i)))]]=bf (128::(List.replicate (zN n) 0++(OC ((n*8:Nat):Int)).take (i+1))):=by
    rw[List.take_of_length_le (by omega),<-AA,List.cons_append,List.append_assoc,Uc _ ⟨i,Cc⟩]
   refine S.sq (S.sq (S.rg ?_))
   refine S.qu (Z.mv U) ?_
   refine S.qu (Z.bi U U U) ?_
   refine US.nil (UQ.then ?_)
   refine S.cT U (decide_eq_true (by omega)) ?_
   refine UW.skip (UQ.then (S.sq (UW.block (S.rg ?_))))
   refine S.qu (Z.mv U) ?_
   refine S.qu (Z.mv U) ?_
   refine S.qu (Z.mv U) ?_
   refine S.qu (Z.mul (r:=((8*(7-i):Nat):Int)) U U (by rw[IntWalk.i64_in _ (by omega)];omega)) ?_
   refine S.qu (Z.cv (r:=((8*(7-i):Nat):Int)) Tryz.underlying105 U (IntWalk.u64_in _ (by omega)) (by rw[Tryz.underlying3];rfl)) ?_
   refine S.qu (Z.shr U U (by omega) U) ?_
   refine S.qu (Z.cv (r:=tb ((n*8:Nat):Int) (7-i)) Tryz.underlying5 U U (by rw[Tryz.underlying107];rfl)) ?_
   refine S.qu (Z.bl iK U U (bA U)) ?_
   refine S.dd (D.ap 0 iK U U (by omega) U (.sl (j3 U)) (by first|omega|(simp;omega)) hap (λp32=>?_))
   refine S.qu (Z.as U) ?_
   refine US.nil (UQ.aB (UQ.then (S.rg ?_)))
   refine S.qu (Z.mv U) ?_
   refine S.qu (Z.sub (r:=7-((i+1:Nat):Int)) U U (by rw[IntWalk.i64_in _ (by omega)];omega)) ?_
   refine S.qu (Z.as U) ?_
   refine US.nil ?_
   refine S.back (i+1,p32) ⟨rfl,rfl,rfl,trivial⟩ (.refl _) (by omega) (by omega)
  ·have hi8:i=8:=by omega
   subst hi8
   refine S.sq (S.sq (S.rg ?_))
   refine S.qu (Z.mv U) ?_
   refine S.qu (Z.bi U U U) ?_
   refine US.nil (UQ.then ?_)
   refine S.cF U (decide_eq_false (by omega)) ?_
   refine UW.exit (UQ.pass (UQ.pass (UQ.here (UQ.then (S.sq (S.rg ?_))))))
   refine S.qu (Z.mv U) ?_
   refine S.qu (Z.as U) ?_
   refine US.gG 2 0 (rs:=bf (jr n)) U U (by omega) (by rw[List.drop_zero];exact List.take_of_length_le (by omega)) ?_
   refine US.nil (UQ.then (UW.ret ?_))
   refine S.bK (λ_=>ak U U) ?_
   rfl
def AO(h:W8)(left:List Int)(n:Nat):List AV:=iN h.l++[.sl (bf left),.v (.int .u64 (n:Int))]
def W0:W8:=⟨0x6a09e667,0xbb67ae85,0x3c6ef372,0xa54ff53a,0x510e527f,0x9b05688c,0x1f83d9ab,0x5be0cd19⟩
theorem Ud(H:Hp):au Tryz.prog 176 [] H (λu H'=>∃news,aM H news/\H'=aC H news/\∃p,u=.ptr p 0/\news=[(p,.box 207 (AO W0 [] 0))]):=by
 refine aF (n:=4) (H0:=H) (I:=[]) Tryz.func176 (by kernel_rfl) U (by rw[Tryz.ntmps176];rfl) .nil ?_
 refine S.sq (S.rg ?_)
 refine S.qu (Z.as U) ?_
 refine US.nil (UQ.then (S.sq (S.rg ?_)))
 refine S.qu (Z.bar lF VD U U U U U) ?_
 refine S.qu (Z.bd [0] bt207 U U U U U U) ?_
 refine S.dd (D.box U U U (λp3=>?_))
 refine S.qu (Z.as U) ?_
 refine US.nil (UQ.then (UW.ret ?_))
 exact bN [_] (λ_=>ak U U) (.refl _) λhd=>⟨_,hd,rfl,p3,rfl,rfl⟩
def GrowR(u:AV)(news:List (Nat×Ob)):Prop:=∃p m,u=.own p 0 0 1/\news=[(p,.row 5 1 (bf (List.replicate m 0)))]
theorem Rp(m:Nat)(hm:m<=140737488355328)(H:Hp):au Tryz.prog 255 [.v (.slice none 0 0),.v (.int .i64 (m:Int))] H (λu H'=>∃news,aM H news/\H'=aC H news/\GrowR u news):=by
 by_cases h0:0<m
 ·refine aF (n:=27) (H0:=H) (I:=[]) Tryz.func255 (by kernel_rfl) U (by rw[Tryz.ntmps255];rfl) .nil ?_
  refine S.sq (S.rg ?_)
  refine S.qu (Z.as U) ?_
  refine US.nil (UQ.then (S.sq (S.sq (S.rg ?_))))
  refine S.qu (Z.mv U) ?_
  refine S.qu (Z.bi U U U) ?_
  refine US.nil (UQ.then ?_)
  refine S.cF U (decide_eq_false (by omega)) ?_
  refine UW.skip (UQ.then (S.sq (S.sq (S.rg ?_))))
  refine S.qu (Z.mv U) ?_
  refine S.qu (Z.mv U) ?_
  refine S.qu (Z.cpn bR U) ?_
  refine S.qu (Z.mv U) ?_
  refine S.qu (Z.lnn bR U) ?_
  refine S.qu (Z.sub (r:=0) U U U) ?_
  refine S.qu (Z.sub (r:=(m:Int)) U U (by rw[Int.sub_zero];exact IntWalk.i64_in _ (by omega))) ?_
  refine S.qu (Z.as U) ?_
  refine US.nil (UQ.then (S.sq (S.rg ?_)))
  refine S.qu (Z.mv U) ?_
  refine S.qu (Z.bi U U U) ?_
  refine US.nil (UQ.then ?_)
  refine S.cT U (decide_eq_true (by omega)) ?_
  refine S.rg ?_
  refine S.qu (Z.mv U) ?_
  refine S.qu (Z.mv U) ?_
  refine S.qu (Z.cpn bR U) ?_
  refine S.qu (Z.sln bR U U) ?_
  refine S.qu (Z.mv U) ?_
  refine S.dd (D.azz m Tryz.underlying3 U U h0 hm (λp22=>?_))
  refine S.qu (Z.mv U) ?_
  refine S.qu (Z.lnn bR U) ?_
  refine S.qu (Z.Cn (m:=0) (m':=0) bR U (.hi U) (by omega) (by omega)) ?_
  refine S.qu (Z.as U) ?_
  refine US.nil (UQ.then (S.sq (S.rg ?_)))
  refine S.qu (Z.mv U) ?_
  refine S.qu (Z.as U) ?_
  refine US.nil (UQ.then (UW.ret ?_))
  exact bN [_] (λ_=>ak U U) (.refl _) λhd=>⟨_,hd,rfl,p22,m,rfl,rfl⟩
 ·have hm0:m=0:=by omega
  subst hm0
  refine aF (n:=27) (H0:=H) (I:=[]) Tryz.func255 (by kernel_rfl) U (by rw[Tryz.ntmps255];rfl) .nil ?_
  refine S.sq (S.rg ?_)
  refine S.qu (Z.as U) ?_
  refine US.nil (UQ.then (S.sq (S.sq (S.rg ?_))))
  refine S.qu (Z.mv U) ?_
  refine S.qu (Z.bi U U U) ?_
  refine US.nil (UQ.then ?_)
  refine S.cF U (decide_eq_false (by omega)) ?_
  refine UW.skip (UQ.then (S.sq (S.sq (S.rg ?_))))
  refine S.qu (Z.mv U) ?_
  refine S.qu (Z.mv U) ?_
  refine S.qu (Z.cpn bR U) ?_
  refine S.qu (Z.mv U) ?_
  refine S.qu (Z.lnn bR U) ?_
  refine S.qu (Z.sub (r:=0) U U U) ?_
  refine S.qu (Z.sub (r:=0) U U U) ?_
  refine S.qu (Z.as U) ?_
  refine US.nil (UQ.then (S.sq (S.rg ?_)))
  refine S.qu (Z.mv U) ?_
  refine S.qu (Z.bi U U U) ?_
  refine US.nil (UQ.then ?_)
  refine S.cF U (decide_eq_false (by omega)) ?_
  refine UW.skip (UQ.then (S.sq (S.rg ?_)))
  refine S.qu (Z.mv U) ?_
  refine US.kG 26 5 1 (by decide) U (λp26=>?_)
  refine S.qu (Z.as U) ?_
  refine US.nil (UQ.then (UW.ret ?_))
  exact bN [_] (λ_=>ak U U) (.refl _) λhd=>⟨_,hd,rfl,p26,0,rfl,rfl⟩
def JM(ps:List (List Int)):List (List AV):=ps.map λp=>[.sl (bf p)]
theorem LF(ps:List (List Int))(j:Nat)(h:j<ps.length):(JM ps)[j]? =some [.sl (bf (ps.getD j []))]:=by
 unfold JM
 rw[List.getElem?_map,List.getElem?_eq_getElem h,List.getD_eq_getElem?_getD,List.getElem?_eq_getElem h];rfl
theorem GH(ps:List (List Int))(j:Nat)(h:j<ps.length):(ps.take (j+1)).flatten=(ps.take j).flatten++ps.getD j []:=by
 rw[List.take_add_one,List.getElem?_eq_getElem h,List.flatten_append,List.getD_eq_getElem?_getD,List.getElem?_eq_getElem h];simp
theorem Ct(ps:List (List Int))(j:Nat):(ps.take j).flatten.length<=ps.flatten.length:=by
 have h:ps.flatten=(ps.take j).flatten++(ps.drop j).flatten:=by rw[<-List.flatten_append,List.take_append_drop]
 rw[h,List.length_append];omega
theorem LG(ps:List (List Int))(hl:ps.length<=1000)(hs:ps.flatten.length<=100000000000)(H:Hp):au Tryz.prog 218 [.sl (JM ps)] H (bz H (.sl (bf ps.flatten))):=by
 have hpl:(JM ps).length=ps.length:=List.length_map ..
 refine aF (n:=36) (H0:=H) (I:=[]) Tryz.func218 (by kernel_rfl) U (by rw[Tryz.ntmps218];rfl) .nil ?_
 refine S.sq (S.rg ?_)
 refine S.qu (Z.as U) ?_
 refine US.nil (UQ.then (S.sq (S.rg ?_)))
 refine S.qu (Z.as U) ?_
 refine US.nil (UQ.then (S.sq (S.sq (S.rg ?_))))
 refine S.qu (Z.mv U) ?_
 refine S.qu (Z.fG K7 U) ?_
 refine S.qu (Z.mv U) ?_
 refine US.nil (UQ.then (UW.block ?_))
 refine S.loop (λj:Nat=>[(11,.v (.int .i64 (j:Int))),(10,.v (.int .i64 ((JM ps).length:Int))),(9,.sl (JM ps)),(3,.v (.int .i64 ((ps.take j).flatten.length:Int))),(0,.sl (JM ps))]) (λ_=>[]) (λj=>j<=ps.length) (λj=>ps.length-j) 0 (Nat.zero_le _) ⟨rfl,rfl,rfl,rfl,rfl,trivial⟩ (.refl _) ?_
 intro j hj
 have hfl:=Ct ps j
 by_cases hlt:j<ps.length
 ·have hg:=LF ps j hlt
  have hsn:=GH ps j hlt
  have hfl1:=Ct ps (j+1)
  have hsl:=congrArg List.length hsn
  rw[List.length_append] at hsl
  have hbl:=bY (ps.getD j [])
  refine S.sq (S.rg ?_)
  refine S.qu (Z.bi U U U) ?_
  refine US.nil (UQ.then (S.sq ?_))
  refine S.cT U (decide_eq_true (by omega)) ?_
  refine UW.skip (UQ.then (S.sq (UW.block (S.sq (S.rg ?_)))))
  refine S.qu (Z.ia K7 U U (by omega) hg (by rfl)) ?_
  refine S.qu (Z.fE De U) ?_
  refine S.qu (Z.as U) ?_
  refine US.nil (UQ.then (S.sq (S.rg ?_)))
  refine S.qu (Z.mv U) ?_
  refine S.qu (Z.mv U) ?_
  refine S.qu (Z.fG bR U) ?_
  refine S.qu (Z.add (r:=(((ps.take (j+1)).flatten.length:Nat):Int)) U U (by rw[IntWalk.i64_in _ (by omega)];omega)) ?_
  refine S.qu (Z.as U) ?_
  refine US.nil (UQ.then (S.sq (S.rg ?_)))
  refine S.qu (Z.mv U) ?_
  refine S.qu (Z.bi U U U) ?_
  refine US.nil (UQ.then ?_)
  refine S.cF U (decide_eq_false (by omega)) ?_
  refine UW.skip (UQ.aB (UQ.then (S.rg ?_)))
  refine S.qu (Z.add (r:=((j+1:Nat):Int)) U U (IntWalk.i64_in _ (by omega))) ?_
  refine S.qu (Z.mv U) ?_
  refine US.nil ?_
  refine S.back _ ⟨rfl,rfl,rfl,rfl,rfl,trivial⟩ (.refl _) (by omega) (by omega)
 ·have hjl:j=ps.length:=by omega
  subst hjl
  rw[List.take_length]
  refine S.sq (S.rg ?_)
  refine S.qu (Z.bi U U U) ?_
  refine US.nil (UQ.then (S.sq ?_))
  refine S.cF U (decide_eq_false (by omega)) ?_
  refine UW.exit (UQ.pass (UQ.pass (UQ.here (UQ.then (S.sq (S.rg ?_))))))
  refine S.qu (Z.mv U) ?_
  refine S.dd (D.cn U U (λ_=>Rp ps.flatten.length (by omega) _) ?_)
  rintro _ _ ⟨p24,m24,rfl,rfl⟩
  refine S.qu (Z.as U) ?_
  refine US.nil (UQ.then (S.sq (S.sq (S.rg ?_))))
  refine S.qu (Z.mv U) ?_
  refine S.qu (Z.fG K7 U) ?_
  refine S.qu (Z.mv U) ?_
  refine US.nil (UQ.then (UW.block ?_))
  refine S.loop (λj:Nat×Nat×List (List AV)=>[(27,.v (.int .i64 (j.1:Int))),(26,.v (.int .i64 ((JM ps).length:Int))),(25,.sl (JM ps)),(6,.own j.2.1 0 (ps.take j.1).flatten.length 1)]) (λj=>[(j.2.1,.row 5 1 j.2.2)]) (λj=>j.1<=ps.length/\j.2.2.take (ps.take j.1).flatten.length=bf (ps.take j.1).flatten/\(ps.take j.1).flatten.length<=j.2.2.length) (λj=>ps.length-j.1) (0,p24,bf (List.replicate m24 0)) ⟨Nat.zero_le _,rfl,Nat.zero_le _⟩ ⟨rfl,rfl,rfl,rfl,trivial⟩ (.refl _) ?_
  rintro⟨j,r,R⟩ ⟨hj,hR,hRl⟩
  dsimp only at hj hR hRl⊢
  have hfl:=Ct ps j
  by_cases hlt:j<ps.length
  ·have hg:=LF ps j hlt
   have hsn:=GH ps j hlt
   have hfl1:=Ct ps (j+1)
   have hsl:=congrArg List.length hsn
   rw[List.length_append] at hsl
   have hbl:=bY (ps.getD j [])
   have hbs:=kC (ps.getD j [])
   have hap:R.take (ps.take j).flatten.length++bf (ps.getD j [])=bf (ps.take (j+1)).flatten:=by rw[hR,<-ED,<-hsn]
   have hn:=bY (ps.take (j+1)).flatten
   have hln:(ps.take j).flatten.length+(bf (ps.getD j [])).length=(ps.take (j+1)).flatten.length:=by omega
   refine S.sq (S.rg ?_)
   refine S.qu (Z.bi U U U) ?_
   refine US.nil (UQ.then (S.sq ?_))
   refine S.cT U (decide_eq_true (by omega)) ?_
   refine UW.skip (UQ.then (S.sq (UW.block (S.sq (S.rg ?_)))))
   refine S.qu (Z.ia K7 U U (by omega) hg (by rfl)) ?_
   refine S.qu (Z.fE De U) ?_
   refine S.qu (Z.as U) ?_
   refine US.nil (UQ.then (S.rg ?_))
   refine S.qu (Z.mv U) ?_
   refine S.qu (Z.mv U) ?_
   refine S.dd (D.ap 0 iK U U hRl U (.sl hbs) (by omega) hap (λp33=>?_))
   rw[hln]
   refine S.qu (Z.as U) ?_
   refine US.nil (UQ.aB (UQ.then (S.rg ?_)))
   refine S.qu (Z.add (r:=((j+1:Nat):Int)) U U (IntWalk.i64_in _ (by omega))) ?_
   refine S.qu (Z.mv U) ?_
   refine US.nil ?_
   refine S.back (j+1,p33,bf (ps.take (j+1)).flatten) ⟨rfl,rfl,rfl,rfl,trivial⟩ (.refl _) ?_ (by omega)
   exact⟨by show j+1<=ps.length;omega,List.take_of_length_le (by show(bf (ps.take (j+1)).flatten).length<=(ps.take (j+1)).flatten.length;omega),by show(ps.take (j+1)).flatten.length<=(bf (ps.take (j+1)).flatten).length;omega⟩
  ·have hjl:j=ps.length:=by omega
   subst hjl
   rw[List.take_length] at hR hRl⊢
   refine S.sq (S.rg ?_)
   refine S.qu (Z.bi U U U) ?_
   refine US.nil (UQ.then (S.sq ?_))
   refine S.cF U (decide_eq_false (by omega)) ?_
   refine UW.exit (UQ.pass (UQ.pass (UQ.here (UQ.then (S.sq (S.rg ?_))))))
   refine S.qu (Z.mv U) ?_
   refine S.qu (Z.as U) ?_
   refine US.gG 2 0 (rs:=bf ps.flatten) U U (by omega) (by rw[List.drop_zero];exact hR) ?_
   refine US.nil (UQ.then (UW.ret ?_))
   refine S.bK (λ_=>ak U U) ?_
   rfl
theorem LH(b:List Int)(hb:b.length<=100000000000)(H:Hp):au Tryz.prog 219 [.sl (bf b)] H (bz H (.sl (bf b))):=by
 have hbl:=bY b
 have hbs:=kC b
 refine aF (n:=8) (H0:=H) (I:=[]) Tryz.func219 (by kernel_rfl) U (by rw[Tryz.ntmps219];rfl) .nil ?_
 refine S.sq (S.rg ?_)
 refine S.qu (Z.as U) ?_
 refine US.kG 2 5 1 (by decide) U (λp2=>?_)
 refine US.nil (UQ.then (S.sq (S.sq (S.rg ?_))))
 refine S.qu (Z.mv U) ?_
 refine S.dd (D.eqn Tryz.underlying22 U (λc4 h4=>?_))
 refine US.nil (UQ.then ?_)
 refine S.cB U (λhc4=>?_) (λhc4=>?_)
 refine S.sq (S.rg ?_)
 refine S.qu (Z.as U) ?_
 refine US.kG 2 5 1 (by decide) U (λp2=>?_)
 refine US.gG 2 0 (rs:=bf b) U U (by first|decide|omega) (by first|(rw[h4 hc4];rfl)|(rw[List.drop_zero];exact List.take_of_length_le (by omega))) ?_
 refine US.nil (UQ.then (UW.ret (UQ.ax ?_)))
 refine S.bK (λ_=>ak U U) ?_
 rfl
 refine UW.skip (UQ.then (S.sq (S.rg ?_)))
 refine S.dd (D.lit iK U U (bA U) (λp5=>?_))
 refine S.qu (Z.mv U) ?_
 refine S.dd (D.ap 0 iK U U (by decide) U (.sl hbs) (by omega) (rws:=bf b) U (λp7=>?_))
 refine S.qu (Z.as U) ?_
 refine US.gG 2 0 (rs:=bf b) U U (by first|decide|omega) (by first|(rw[h4 hc4];rfl)|(rw[List.drop_zero];exact List.take_of_length_le (by omega))) ?_
 refine US.nil (UQ.then (UW.ret ?_))
 refine S.bK (λ_=>ak U U) ?_
 rfl
end Go.Proofs.YtonpfomjoiaacaaGreatDoor
end
