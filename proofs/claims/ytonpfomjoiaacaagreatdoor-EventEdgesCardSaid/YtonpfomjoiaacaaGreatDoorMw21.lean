/- A part of the proof. -/
import Derived.Test.YtonpfomjoiaacaaGreatDoorMw10
import Derived.Test.YtonpfomjoiaacaaGreatDoorMw20
set_option maxRecDepth 100000
set_option maxHeartbeats 4000000
set_option linter.unusedSectionVars false
set_option linter.unusedVariables false
set_option linter.unusedSimpArgs false
section
namespace Go.Proofs.YtonpfomjoiaacaaGreatDoor
open Go Go.iG Go.RowKit
theorem mM:UG Tryz.prog 205=some (8,203,1):=by kernel_rfl
theorem yN:UG Tryz.prog 243=some (64,203,1):=by kernel_rfl
def Ns(x n:Int):Int:=VG (K5 x n) (DZ x (32-n))
theorem VH(a b:Int):VG a b=VG b a:=by unfold VG;rw[BitVec.or_comm]
theorem Ya:∀n:Fin 32,0<n.val->IntKind.u64.wrap (BitVec.ofInt IntKind.u64.bits (IntKind.u64.wrap (IntKind.i64.wrap (0-(n.val:Int))))&&&BitVec.ofInt IntKind.u64.bits 31).toNat=32-(n.val:Int):=by decide
theorem TB(x n:Int)(h0:0<n)(h1:n<32)(H:Hp):au Tryz.prog 291 [.v (.int .u32 x),.v (.int .i64 (IntKind.i64.wrap (0-n)))] H (bB H (.v (.int .u32 (Ns x n)))):=by
 have hr:=Ya ⟨n.toNat,by omega⟩ (by show 0<n.toNat;omega)
 rw[show(((⟨n.toNat,by omega⟩:Fin 32).val:Nat):Int)=n from Int.toNat_of_nonneg (by omega)] at hr
 refine aF (n:=17) (H0:=H) (I:=[]) Tryz.func291 (by kernel_rfl) U (by rw[Tryz.ntmps291];rfl) .nil<|?_
 refine Q.rg<|Q.as U<|Q.nt<|Q.rg<|Q.mv U<|S.qu (Z.cv Tryz.underlying105 U U (by rw[Tryz.underlying3];rfl))<|?_
 refine S.qu (Z.eq (u':=.v (.int .u64 (32-n))) (Z.bi U U U) (by rw[hr]))<|?_
 refine Q.as U<|Q.nt<|Q.rg<|Q.mv U<|Q.mv U<|S.qu (Z.TA U U (by omega))<|Q.mv U<|Q.mv U<|S.qu (Z.sub (r:=n) U U (by rw[show(32:Int)-(32-n)=n from by omega];exact IntWalk.u64_in _ (by omega)))<|?_
 refine S.qu (Z.FM U U (by omega))<|S.qu (Z.wor U U)<|Q.as U<|Q.nt<|UW.ret<|S.bH (λ_=>ak U U)<|?_
 focus (rw[VH];rfl;done)
theorem qD(x n:Int)(h0:0<n)(h1:n<32)(H:Hp):au Tryz.prog 278 [.v (.int .u32 x),.v (.int .i64 n)] H (bB H (.v (.int .u32 (Ns x n)))):=by
 refine aF (n:=9) (H0:=H) (I:=[]) Tryz.func278 (by kernel_rfl) U (by rw[Tryz.ntmps278];rfl) .nil<|?_
 refine Q.rg<|Q.as U<|Q.nt<|Q.rg<|Q.mv U<|Q.mv U<|S.qu (Z.neg U U)<|S.qu (Z.call U U (λH=>TB x n h0 h1 H))<|Q.as U<|Q.nt<|UW.ret<|S.bH (λ_=>ak U U)<|?_
 rfl
def PY(x a b c:Int):Int:=Nr (Nr (Ns x a) (Ns x b)) (K5 x c)
def PZ(x a b c:Int):Int:=Nr (Nr (Ns x a) (Ns x b)) (Ns x c)
theorem FN(x a b c:Int)(ha:0<a/\a<32)(hb:0<b/\b<32)(hc:0<=c)(H:Hp):au Tryz.prog 277 [.v (.int .u32 x),.v (.int .i64 a),.v (.int .i64 b),.v (.int .u64 c)] H (bB H (.v (.int .u32 (PY x a b c)))):=by
 refine aF (n:=20) (H0:=H) (I:=[]) Tryz.func277 (by kernel_rfl) U (by rw[Tryz.ntmps277];rfl) .nil<|?_
 refine Q.rg<|Q.as U<|Q.nt<|Q.rg<|Q.mv U<|Q.mv U<|S.qu (Z.call U U (λ_=>qD _ _ (by omega) (by omega) _))<|Q.mv U<|Q.mv U<|S.qu (Z.call U U (λ_=>qD _ _ (by omega) (by omega) _))<|S.qu (Z.vZ U U)<|Q.mv U<|Q.mv U<|S.qu (Z.FM U U (by omega))<|S.qu (Z.vZ U U)<|Q.as U<|Q.nt<|UW.ret<|S.bH (λ_=>ak U U)<|?_
 rfl
theorem FO(x a b c:Int)(ha:0<a/\a<32)(hb:0<b/\b<32)(hc:0<c/\c<32)(H:Hp):au Tryz.prog 258 [.v (.int .u32 x),.v (.int .i64 a),.v (.int .i64 b),.v (.int .i64 c)] H (bB H (.v (.int .u32 (PZ x a b c)))):=by
 refine aF (n:=20) (H0:=H) (I:=[]) Tryz.func258 (by kernel_rfl) U (by rw[Tryz.ntmps258];rfl) .nil<|?_
 refine Q.rg<|Q.as U<|Q.nt<|Q.rg<|Q.mv U<|Q.mv U<|S.qu (Z.call U U (λ_=>qD _ _ (by omega) (by omega) _))<|Q.mv U<|Q.mv U<|S.qu (Z.call U U (λ_=>qD _ _ (by omega) (by omega) _))<|S.qu (Z.vZ U U)<|Q.mv U<|Q.mv U<|S.qu (Z.call U U (λ_=>qD _ _ (by omega) (by omega) _))<|S.qu (Z.vZ U U)<|Q.as U<|Q.nt<|UW.ret<|S.bH (λ_=>ak U U)<|?_
 rfl
theorem jY(x n:Int)(h0:0<=n)(h1:n<=32)(H:Hp):au Tryz.prog 151 [.v (.int .u32 x),.v (.int .u64 n)] H (bB H (.v (.int .u32 (Ns x n)))):=by
 refine aF (n:=13) (H0:=H) (I:=[]) Tryz.func151 (by kernel_rfl) U (by rw[Tryz.ntmps151];rfl) .nil<|?_
 refine Q.rg<|Q.as U<|Q.nt<|Q.rg<|Q.mv U<|Q.mv U<|S.qu (Z.FM U U (by omega))<|Q.mv U<|Q.mv U<|S.qu (Z.sub U U (IntWalk.u64_in _ (by omega)))<|S.qu (Z.TA U U (by omega))<|S.qu (Z.wor U U)<|Q.as U<|Q.nt<|UW.ret<|S.bH (λ_=>ak U U)<|?_
 rfl
def bC(b:List Int):List (List AV):=b.map λc=>[.v (.int .u8 c)]
def jr(w:List Int):List AV:=w.map λc=> .v (.int .u32 c)
theorem dD(b:List Int):(bC b).length=b.length:=List.length_map ..
theorem lJ(b:List Int):∀cs∈bC b,cs.length=1:=by
 intro cs h
 obtain⟨c,_,rfl⟩:=List.mem_map.1 h
 rfl
theorem qE(b:List Int)(j:Nat)(h:j<b.length):(bC b)[j]? =some [.v (.int .u8 (b.getD j 0))]:=by
 unfold bC
 rw[List.getElem?_map,List.getElem?_eq_getElem h,List.getD_eq_getElem?_getD,List.getElem?_eq_getElem h];rfl
theorem oz(b:List Int):(jr b).length=b.length:=List.length_map ..
theorem wZ(b:List Int)(j:Nat)(h:j<b.length):(jr b)[j]? =some (.v (.int .u32 (b.getD j 0))):=by
 unfold jr
 rw[List.getElem?_map,List.getElem?_eq_getElem h,List.getD_eq_getElem?_getD,List.getElem?_eq_getElem h];rfl
theorem FP(b:List Int)(j:Nat)(x:Int):(jr b).set j (.v (.int .u32 x))=jr (b.set j x):=by unfold jr;rw[List.map_set]
theorem Cr(b:List Int):(jr b).all aT=true:=by
 rw[List.all_eq_true]
 intro x hx
 obtain⟨c,_,rfl⟩:=List.mem_map.1 hx
 rfl
def fo(b:List Int):Prop:=∀c∈b,0<=c/\c<256
theorem fo.at{b:List Int}(h:fo b)(j:Nat):0<=b.getD j 0/\b.getD j 0<256:=by
 by_cases hj:j<b.length
 ·rw[List.getD_eq_getElem?_getD,List.getElem?_eq_getElem hj]
  exact h _ (List.getElem_mem hj)
 ·rw[List.getD_eq_getElem?_getD,List.getElem?_eq_none (by omega)]
  decide
def fZ(b:List Int)(t:Nat):Nat->Int
 |0=>0
 |k+1=>VG (DZ (fZ b t k) 8) (b.getD (4*t+k) 0)
def Bc(w:List Int)(t:Nat):Int:=rf (rf (rf (PY (w.getD (t-2) 0) 17 19 10) (w.getD (t-7) 0)) (PY (w.getD (t-15) 0) 7 18 3)) (w.getD (t-16) 0)
def bE(b:List Int):Nat->List Int
 |0=>[]
 |t+1=>bE b t++[if t<16 then fZ b t 4 else Bc (bE b t) t]
theorem jM(b:List Int):∀t,(bE b t).length=t
 |0=>rfl
 |t+1=>by rw[bE,List.length_append,jM b t];rfl
def kI(w:List Int)(n:Nat):List Int:=w++List.replicate (n-w.length) 0
theorem yf(w:List Int)(n:Nat)(h:w.length<=n):(kI w n).length=n:=by unfold kI;rw[List.length_append,List.length_replicate];omega
theorem VI(w:List Int)(n j:Nat)(h:j<w.length):(kI w n).getD j 0=w.getD j 0:=by
 unfold kI
 rw[List.getD_eq_getElem?_getD,List.getD_eq_getElem?_getD,List.getElem?_append_left h]
theorem TC(w:List Int)(n:Nat)(x:Int)(h:w.length<n):(kI w n).set w.length x=kI (w++[x]) n:=by
 unfold kI
 rw[List.set_append_right _ _ (Nat.le_refl _),Nat.sub_self,List.length_append]
 rw[show n-w.length=(n-(w.length+1))+1 from by omega,List.replicate_succ,List.set_cons_zero,List.append_assoc]
 rfl
theorem P5(w:List Int)(n:Nat)(x y:Int)(h:w.length<n):(kI (w++[y]) n).set w.length x=kI (w++[x]) n:=by
 unfold kI
 rw[List.append_assoc,List.set_append_right _ _ (Nat.le_refl _),Nat.sub_self,List.length_append,List.length_append,List.append_assoc]
 rfl
theorem FQ(w:List Int)(n:Nat)(h:w.length=n):kI w n=w:=by unfold kI;rw[h];simp
theorem TD(w:List Int)(n:Nat)(h:w.length<n):kI w n=kI (w++[0]) n:=by
 unfold kI
 rw[List.length_append,show n-w.length=(n-(w.length+1))+1 from by omega,List.replicate_succ,List.append_assoc];rfl
theorem ldF(w:List Int)(n:Nat)(i:Int)(m:Nat)(hi:i=m)(hm:m<w.length)(hn:w.length<=n):(jr (kI w n))[0+i.toNat*1]? =some (.v (.int .u32 (w.getD m 0))):=by
 rw[show 0+i.toNat*1=m from by omega,wZ _ _ (by rw[yf _ _ hn];omega),VI _ _ _ hm]
theorem setF(w:List Int)(n:Nat)(i x:Int)(hi:i=w.length)(h:w.length<n):wD (jr (kI w n)) (0+i.toNat*1) [.v (.int .u32 x)]=some (jr (kI (w++[x]) n)):=by
 rw[show 0+i.toNat*1=w.length from by omega,Bb _ _ _ (by rw[oz,yf _ _ (by omega)];omega),FP,TC _ _ _ h]
theorem setF2(w:List Int)(n:Nat)(i x y:Int)(hi:i=w.length)(h:w.length<n):wD (jr (kI (w++[y]) n)) (0+i.toNat*1) [.v (.int .u32 x)]=some (jr (kI (w++[x]) n)):=by
 rw[show 0+i.toNat*1=w.length from by omega,Bb _ _ _ (by rw[oz,yf _ _ (by rw[List.length_append];simp;omega)];omega),FP,P5 _ _ _ _ h]
theorem P6(b:List Int)(hl:b.length=64)(hb:fo b)(H:Hp):au Tryz.prog 256 [.sl (bC b)] H (bB H (.agg (jr (bE b 64)))):=by
 have hel:=dD b
 have hes:=lJ b
 refine aF (n:=58) (H0:=H) (I:=[]) Tryz.func256 (by kernel_rfl) U (by rw[Tryz.ntmps256];rfl) .nil<|?_
 refine Q.rg<|S.dd<|D.al Vf U (us:=jr (kI [] 64)) U U λp2=>Q.nt<|S.sq<|Q.rg<|Q.mv U<|Q.nt<|UW.block<|S.loop (λj:Nat=>[(6,.v (.int .i64 (j:Int))),(2,.ptr p2 0),(0,.sl (bC b))]) (λj=>[(p2,.box 243 (jr (kI (bE b j) 64)))]) (λj=>j<=64) (λj=>64-j) 0 (Nat.zero_le _) ⟨rfl,rfl,rfl,trivial⟩ (.refl _)<|?_
 intro j hj
 have hwl:=jM b j
 have hfl:=yf (bE b j) 64 (by omega)
 by_cases hlt:j<64
 ·by_cases h16:j<16
  ·have h4l:(((bC b).take (4*j+4)).drop (4*j)).length=4:=by rw[List.length_drop,List.length_take,hel];omega
   have hsu:bE b (j+1)=bE b j++[fZ b j 4]:=by rw[bE,if_pos h16]
   refine Q.rg<|Q.bi U U U<|Q.nt<|S.sq<|S.cT U (decide_eq_true (by omega))<|UW.skip<|UQ.then<|S.sq<|UW.block<|Q.rg<|Q.mv U<|Q.as U<|Q.nt<|S.sq<|Q.rg<|Q.mv U<|Q.bi U U U<|Q.nt<|S.cT U (decide_eq_true (by omega))<|S.sq<|Q.rg<|Q.mv U<|Q.mv U<|S.qu (Z.mul (r:=((4*j:Nat):Int)) U U (IntWalk.i64_in _ (by omega)))<|Q.mv U<|S.qu (Z.mul (r:=((4*j:Nat):Int)) U U (IntWalk.i64_in _ (by omega)))<|S.qu (Z.add (r:=((4*j+4:Nat):Int)) U U (IntWalk.i64_in _ (by omega)))<|S.qu (Z.Xl cK U hes (.both U U) (by omega) (by omega) U)<|S.qu (Z.eq (u':=.v (.int .i64 4)) (Z.fM cK U) (by rw[h4l];rfl))<|?_
   refine Q.mv U<|Q.nt<|UW.block<|?_
   rw[TD (bE b j) 64 (by omega)]
   refine S.loop (λk:Nat=>[(19,.v (.int .i64 (k:Int))),(18,.v (.int .i64 4)),(17,.sl (((bC b).take (4*j+4)).drop (4*j))),(3,.v (.int .i64 (j:Int))),(6,.v (.int .i64 (j:Int))),(2,.ptr p2 0),(0,.sl (bC b))]) (λk=>[(p2,.box 243 (jr (kI (bE b j++[fZ b j k]) 64)))]) (λk=>k<=4) (λk=>4-k) 0 (Nat.zero_le _) ⟨rfl,rfl,rfl,rfl,rfl,rfl,rfl,trivial⟩ (.refl _)<|?_
   intro k hk
   by_cases hk4:k<4
   ·have hat:=hb.at (4*j+k)
    have hget:(((bC b).take (4*j+4)).drop (4*j))[((k:Nat):Int).toNat]? =some [.v (.int .u8 (b.getD (4*j+k) 0))]:=by
     rw[Int.toNat_natCast,List.getElem?_drop,List.getElem?_take_of_lt (by omega),qE _ _ (by omega)]
    have hld:=ldF (bE b j++[fZ b j k]) 64 (j:Int) j U (by rw[List.length_append,hwl];simp) (by rw[List.length_append,hwl];simp;omega)
    rw[show(bE b j++[fZ b j k]).getD j 0=fZ b j k from by rw[List.getD_eq_getElem?_getD,List.getElem?_append_right (by omega),hwl,Nat.sub_self];rfl] at hld
    have hset:=setF2 (bE b j) 64 (j:Int) (fZ b j (k+1)) (fZ b j k) (by rw[hwl]) (by omega)
    refine Q.rg<|Q.bi U U U<|Q.nt<|S.sq<|S.cT U (decide_eq_true (by omega))<|UW.skip<|UQ.then<|S.sq<|UW.block<|Q.rg<|S.qu (Z.ia cK U U (by omega) hget (by rfl))<|?_
    refine S.qu (Z.fO oW U)<|Q.as U<|Q.nt<|S.rg<|Q.mv U<|Q.mv U<|S.qu (Z.FK yN U U (by omega) (by omega))<|S.qu (Z.dM 0 jQ U U hld)<|S.qu (Z.TA U U (by omega))<|Q.mv U<|S.qu (Z.cv Tryz.underlying203 U (IntWalk.u32_in _ (by omega)) (by rw[Tryz.underlying5];rfl))<|?_
    refine S.qu (Z.wor U U)<|S.qu (Z.FK yN U U (by omega) (by omega))<|S.s<|D.st 0 jQ U U U U U U hset U λ_=>US.nil<|UQ.aB<|UQ.then<|S.rg<|S.qu (Z.add (r:=((k+1:Nat):Int)) U U (IntWalk.i64_in _ (by omega)))<|Q.mv U<|US.nil<|?_
    refine S.back _ ⟨rfl,rfl,rfl,rfl,rfl,rfl,rfl,trivial⟩ (.refl _) (by omega) (by omega)
   ·have hk4':k=4:=by omega
    subst hk4'
    rw[<-hsu]
    refine Q.rg<|Q.bi U U U<|Q.nt<|S.sq<|S.cF U (decide_eq_false (by omega))<|UW.exit<|UQ.pass<|UQ.pass<|UQ.here<|UQ.then<|UW.exit<|UQ.pass<|UQ.here<|UQ.then<|S.rg<|S.qu (Z.add (r:=((j+1:Nat):Int)) U U (IntWalk.i64_in _ (by omega)))<|Q.mv U<|US.nil<|?_
    refine S.back _ ⟨rfl,rfl,rfl,trivial⟩ (.refl _) (by omega) (by omega)
  ·have hsu:bE b (j+1)=bE b j++[Bc (bE b j) j]:=by rw[bE,if_neg h16]
   have h2:=ldF (bE b j) 64 ((j:Int)-2) (j-2) (by omega) (by omega) (by omega)
   have h7:=ldF (bE b j) 64 ((j:Int)-7) (j-7) (by omega) (by omega) (by omega)
   have h15:=ldF (bE b j) 64 ((j:Int)-15) (j-15) (by omega) (by omega) (by omega)
   have h16':=ldF (bE b j) 64 ((j:Int)-16) (j-16) (by omega) (by omega) (by omega)
   have hset:=setF (bE b j) 64 (j:Int) (Bc (bE b j) j) (by rw[hwl]) (by omega)
   rw[<-hsu] at hset
   refine Q.rg<|Q.bi U U U<|Q.nt<|S.sq<|S.cT U (decide_eq_true (by omega))<|UW.skip<|UQ.then<|S.sq<|UW.block<|Q.rg<|Q.mv U<|Q.as U<|Q.nt<|S.sq<|Q.rg<|Q.mv U<|Q.bi U U U<|Q.nt<|S.cF U (decide_eq_false (by omega))<|UW.skip<|UQ.then<|?_
   refine' UW.bG (by kernel_rfl) [0,0,2,6,14,30,0,64,192,448,1022,0,2048,6144,14336,30782,65534,0,131072,393216,917504,2097150,4194303,8388607] [some 33,some 34,some 35,some 36,some 37,some 38,some 39,some 40,some 41,some 42,some 43,some 44,some 45,some 46,some 47,some 48,some 49,some 50,some 51,some 52,some 53,some 54,some 55,none] [some (33,_),some (34,_),some (35,_),some (36,_),some (37,_),some (38,_),some (39,_),some (40,_),some (41,_),some (42,_),some (43,_),some (44,_),some (45,_),some (46,_),some (47,_),some (48,_),some (49,_),some (50,_),some (51,_),some (52,_),some (53,_),some (54,_),some (55,_),none] [23] [4,9,14,20] U (by decide) (by decide) (M.free (by decide) U U ?FR (M.free (by decide) U U ?FT (M.free (by decide) U U ?FU (M.free (by decide) U U ?FV (M.held (by decide) U U ?FW (M.free (by decide) U U ?FX (M.free (by decide) U U ?FY (M.free (by decide) U U ?FZ (M.free (by decide) U U ?F3 (M.held (by decide) U U ?F4 (M.free (by decide) U U ?K6 (M.free (by decide) U U ?K7 (M.free (by decide) U U ?Yb (M.free (by decide) U U ?Yc (M.held (by decide) U U ?Yd (M.free (by decide) U U ?Ye (M.free (by decide) U U ?Yf (M.free (by decide) U U ?Yg (M.free (by decide) U U ?Yh (M.free (by decide) U U ?Yi (M.held (by decide) U U ?Yj (M.free (by decide) U U ?Yk (M.free (by decide) U U ?Yl (M.skip M.nil)))))))))))))))))))))))) ?VJ
   case FR=>(intro _;exact Z.mv rfl)
   case FT=>(intro _;exact Z.mv rfl)
   case FU=>(intro _;exact Z.sub rfl rfl (IntWalk.i64_in _ (by omega)))
   case FV=>(intro _;exact Z.FK yN rfl rfl (by omega) (by omega))
   case FW=>exact Z.dM 0 jQ rfl rfl h2
   case FX=>(intro _;exact Z.call rfl rfl (λ_=>FN _ _ _ _ (by omega) (by omega) (by omega) _))
   case FY=>(intro _;exact Z.mv rfl)
   case FZ=>(intro _;exact Z.sub rfl rfl (IntWalk.i64_in _ (by omega)))
   case F3=>(intro _;exact Z.FK yN rfl rfl (by omega) (by omega))
   case F4=>exact Z.dM 0 jQ rfl rfl h7
   case K6=>(intro _;exact Z.rq rfl rfl)
   case K7=>(intro _;exact Z.mv rfl)
   case Yb=>(intro _;exact Z.sub rfl rfl (IntWalk.i64_in _ (by omega)))
   case Yc=>(intro _;exact Z.FK yN rfl rfl (by omega) (by omega))
   case Yd=>exact Z.dM 0 jQ rfl rfl h15
   case Ye=>(intro _;exact Z.call rfl rfl (λ_=>FN _ _ _ _ (by omega) (by omega) (by omega) _))
   case Yf=>(intro _;exact Z.rq rfl rfl)
   case Yg=>(intro _;exact Z.mv rfl)
   case Yh=>(intro _;exact Z.sub rfl rfl (IntWalk.i64_in _ (by omega)))
   case Yi=>(intro _;exact Z.FK yN rfl rfl (by omega) (by omega))
   case Yj=>exact Z.dM 0 jQ rfl rfl h16'
   case Yk=>(intro _;exact Z.rq rfl rfl)
   case Yl=>(intro _;exact Z.FK yN rfl rfl (by omega) (by omega))
   refine CH.bX U U<|D.st 0 jQ U U U U U U hset U λ_=>CH.nil<|?_
   simp only[app,bS]
   refine UQ.aB<|UQ.then<|S.rg<|S.qu (Z.add (r:=((j+1:Nat):Int)) U U (IntWalk.i64_in _ (by omega)))<|Q.mv U<|US.nil<|?_
   refine S.back _ ⟨rfl,rfl,rfl,trivial⟩ (.refl _) (by omega) (by omega)
 ·have P7:j=64:=by omega
  subst P7
  rw[FQ _ _ hwl]
  have hsz:(Tryz.prog.info? 243).map (·.size)=some (jr (bE b 64)).length:=by rw[oz,hwl];kernel_rfl
  refine Q.rg<|Q.bi U U U<|Q.nt<|S.sq<|S.cF U (decide_eq_false (by omega))<|UW.exit<|UQ.pass<|UQ.pass<|UQ.here<|UQ.then<|Q.rg<|S.qu (Z.bW 0 M5 U U (by rw[oz,hwl]))<|?_
  refine S.s<|D.vW 0 M5 U U U U (Cr _) (by rw[oz,hwl]) (by rw[oz,hwl]) U λ_=>?_
  refine Q.nt<|UW.ret<|S.bH (λhd=>BV (k:=0) hd U U U Tryz.underlying243 (by assumption))<|?_
  rfl
def encR(w:List Int):List (List AV):=w.map λc=>[.v (.int .u32 c)]
theorem tC(b:List Int):(encR b).length=b.length:=List.length_map ..
theorem Ei(b:List Int):∀cs∈encR b,cs.length=1:=by
 intro cs h
 obtain⟨c,_,rfl⟩:=List.mem_map.1 h
 rfl
theorem mO(b:List Int)(j:Nat)(h:j<b.length):(encR b)[j]? =some [.v (.int .u32 (b.getD j 0))]:=by
 unfold encR
 rw[List.getElem?_map,List.getElem?_eq_getElem h,List.getD_eq_getElem?_getD,List.getElem?_eq_getElem h];rfl
theorem TE(b:List Int)(x:Int):encR (b++[x])=encR b++[[.v (.int .u32 x)]]:=by unfold encR;rw[List.map_append];rfl
theorem F5(b:List Int)(j:Nat)(x:Int)(h:b.length<=j):(encR b).take j++[[.v (.int .u32 x)]]=encR (b++[x]):=by rw[List.take_of_length_le (by rw[tC];omega),TE]
def F6:List Int:=[1116352408,1899447441,3049323471,3921009573,961987163,1508970993,2453635748,2870763221,3624381080,310598401,607225278,1426881987,1925078388,2162078206,2614888103,3248222580,3835390401,4022224774,264347078,604807628,770255983,1249150122,1555081692,1996064986,2554220882,2821834349,2952996808,3210313671,3336571891,3584528711,113926993,338241895,666307205,773529912,1294757372,1396182291,1695183700,1986661051,2177026350,2456956037,2730485921,2820302411,3259730800,3345764771,3516065817,3600352804,4094571909,275423344,430227734,506948616,659060556,883997877,958139571,1322822218,1537002063,1747873779,1955562222,2024104815,2227730452,2361852424,2428436474,2756734187,3204031479,3329325298]
theorem TF(H:Hp):au Tryz.prog 257 [] H (bB H (.agg (jr F6))):=by
 have hsz:(Tryz.prog.info? 243).map (·.size)=some (jr F6).length:=by kernel_rfl
 refine aF (n:=2) (H0:=H) (I:=[]) Tryz.func257 (by kernel_rfl) U (by rw[Tryz.ntmps257];rfl) .nil<|?_
 refine Q.rg<|S.dd<|D.al Vf U U U λp0=>Q.nt<|Q.rg<|S.qu (Z.bar yN Vf U U U U U)<|S.s<|D.st 0 M5 U U U U U U U U λ_=>Q.nt<|UW.ret<|S.bH (λhd=>BV (k:=0) hd U U U Tryz.underlying243 (by assumption))<|?_
 rfl
theorem P8(H:Hp):au Tryz.prog 150 [] H (bB H (.sl (encR F6))):=by
 refine aF (n:=2) (H0:=H) (I:=[]) Tryz.func150 (by kernel_rfl) U (by rw[Tryz.ntmps150];rfl) .nil<|?_
 refine Q.rg<|Q.as U<|Q.nt<|Q.rg<|S.qu (Z.bl wN U U (bz U))<|Q.as U<|Q.nt<|UW.ret<|S.bH (λ_=>ak U U)<|?_
 rfl
theorem zO(a c:Int)(k:Nat)(ha:0<=a)(hc:0<=c)(hck:c<2^k)(hb:a*2^k+c<4294967296):VG (a*2^k) c=a*2^k+c:=by
 obtain⟨a,rfl⟩:=Int.eq_ofNat_of_zero_le ha
 obtain⟨c,rfl⟩:=Int.eq_ofNat_of_zero_le hc
 have h1:((a:Int)*2^k)=((a*2^k:Nat):Int):=by simp
 have h2:c<2^k:=by
  have:((c:Nat):Int)<((2^k:Nat):Int):=by simpa using hck
  omega
 rw[h1] at hb⊢
 have h3:a*2^k+c<4294967296:=by omega
 unfold VG
 rw[show IntKind.u32.bits=32 from rfl,BitVec.toNat_or,BitVec.toNat_ofInt,BitVec.toNat_ofInt]
 have e1:(((a*2^k:Nat):Int)%((2^32:Nat):Int)).toNat=a*2^k:=by omega
 have e2:(((c:Nat):Int)%((2^32:Nat):Int)).toNat=c:=by omega
 rw[e1,e2,<-Nat.shiftLeft_eq,<-Nat.shiftLeft_add_eq_or_of_lt h2,Nat.shiftLeft_eq,IntWalk.u32_in _ (by omega)]
 omega
theorem K8(a:Int)(k:Nat)(hk:k<=32)(ha:0<=a)(hb:a*2^k<4294967296):DZ a (k:Int)=a*2^k:=by
 unfold DZ
 rw[Int.toNat_natCast,Nat.min_eq_left (by show k<=32;exact hk),IntWalk.u32_in _ ⟨by exact Int.mul_nonneg ha (by exact Int.le_of_lt (Int.pow_pos (by decide))),by omega⟩]
theorem Ym(a:Int)(ha:0<=a)(hb:a*2^8<4294967296):DZ a 8=a*2^8:=K8 a 8 (by decide) ha hb
def beW(c0 c1 c2 c3:Int):Int:=VG (VG (VG (DZ c0 24) (DZ c1 16)) (DZ c2 8)) c3
theorem beW_eq(c0 c1 c2 c3:Int)(h0:0<=c0/\c0<256)(h1:0<=c1/\c1<256)(h2:0<=c2/\c2<256)(h3:0<=c3/\c3<256):beW c0 c1 c2 c3=c0*16777216+c1*65536+c2*256+c3:=by
 have s0:DZ c0 24=c0*2^24:=K8 c0 24 (by decide) h0.1 (by omega)
 have s1:DZ c1 16=c1*2^16:=K8 c1 16 (by decide) h1.1 (by omega)
 have s2:DZ c2 8=c2*2^8:=K8 c2 8 (by decide) h2.1 (by omega)
 unfold beW
 rw[s0,s1,s2]
 rw[zO c0 (c1*2^16) 24 h0.1 (by omega) (by omega) (by omega)]
 rw[show c0*2^24+c1*2^16=(c0*2^8+c1)*2^16 from by omega,zO _ (c2*2^8) 16 (by omega) (by omega) (by omega) (by omega)]
 rw[show(c0*2^8+c1)*2^16+c2*2^8=(c0*2^16+c1*2^8+c2)*2^8 from by omega,zO _ c3 8 (by omega) (by omega) (by omega) (by omega)]
 omega
theorem acc_eq(b:List Int)(hb:fo b)(t:Nat):fZ b t 4=b.getD (4*t) 0*16777216+b.getD (4*t+1) 0*65536+b.getD (4*t+2) 0*256+b.getD (4*t+3) 0:=by
 have h0:=hb.at (4*t)
 have h1:=hb.at (4*t+1)
 have h2:=hb.at (4*t+2)
 have h3:=hb.at (4*t+3)
 have a0:fZ b t 0=0:=rfl
 have a1:fZ b t 1=b.getD (4*t) 0:=by
  rw[fZ,a0,Ym 0 (by decide) (by decide),zO 0 _ 8 (by decide) (by exact h0.1) (by exact h0.2) (by have:=h0.2;show(0:Int)*2^8+b.getD (4*t) 0<_;omega)]
  show(0:Int)*2^8+b.getD (4*t) 0=_
  omega
 have a2:fZ b t 2=b.getD (4*t) 0*256+b.getD (4*t+1) 0:=by
  rw[fZ,a1,Ym _ h0.1 (by omega),zO _ _ 8 h0.1 h1.1 (by omega) (by omega)]
  omega
 have a3:fZ b t 3=b.getD (4*t) 0*65536+b.getD (4*t+1) 0*256+b.getD (4*t+2) 0:=by
  rw[fZ,a2,Ym _ (by omega) (by omega),zO _ _ 8 (by omega) h2.1 (by omega) (by omega)]
  omega
 rw[fZ,a3,Ym _ (by omega) (by omega),zO _ _ 8 (by omega) h3.1 (by omega) (by omega)]
 omega
theorem be_acc(b:List Int)(hb:fo b)(t:Nat):beW (b.getD (4*t) 0) (b.getD (4*t+1) 0) (b.getD (4*t+2) 0) (b.getD (4*t+3) 0)=fZ b t 4:=by
 rw[acc_eq b hb,beW_eq _ _ _ _ (hb.at _) (hb.at _) (hb.at _) (hb.at _)]
theorem Nt(b:List Int)(hl:b.length=64)(hb:fo b)(H:Hp):au Tryz.prog 149 [.sl (bC b)] H (bB H (.sl (encR (bE b 64)))):=by
 have hel:=dD b
 refine aF (n:=99) (H0:=H) (I:=[]) Tryz.func149 (by kernel_rfl) U (by rw[Tryz.ntmps149];rfl) .nil<|?_
 refine Q.rg<|Q.as U<|Q.nt<|Q.rg<|Q.as U<|US.kZ 3 108 1 (by decide) U λp3=>Q.nt<|S.sq<|Q.rg<|Q.as U<|Q.nt<|UW.block<|S.loop (λj:Nat×Nat=>[(4,.v (.int .i64 (j.1:Int))),(3,.own j.2 0 j.1 1),(0,.sl (bC b))]) (λj=>[(j.2,.row 108 1 (encR (bE b j.1)))]) (λj=>j.1<=16) (λj=>16-j.1) (0,p3) (Nat.zero_le _) ⟨rfl,rfl,rfl,trivial⟩ (.refl _)<|?_
 rintro⟨j,r⟩ hj
 dsimp only at hj⊢
 have hwl:=jM b j
 by_cases hlt:j<16
 ·have hsu:bE b (j+1)=bE b j++[fZ b j 4]:=by rw[bE,if_pos hlt]
  have hap:=F5 (bE b j) j (fZ b j 4) (by omega)
  rw[<-hsu,<-be_acc b hb] at hap
  have b0:=hb.at (4*j)
  have b1:=hb.at (4*j+1)
  have b2:=hb.at (4*j+2)
  have b3:=hb.at (4*j+3)
  have g0:=qE b (4*j) (by omega)
  have g1:=qE b (4*j+1) (by omega)
  have g2:=qE b (4*j+2) (by omega)
  have g3:=qE b (4*j+3) (by omega)
  have hrl:=tC (bE b j)
  refine S.sq<|Q.rg<|Q.mv U<|Q.bi U U U<|Q.nt<|S.cT U (decide_eq_true (by omega))<|UW.skip<|UQ.then<|S.sq<|UW.block<|?_
  refine' UW.bG (by kernel_rfl) [0,0,0,4,14,30,62,126,0,0,512,1536,3840,7936,16128,32512,65534,0,0,262144,786432,1966080,4063232,8257536,16646144,33554430,0,0,134217728,402653184,1006632960,2080374784,4227858432,8589934590,17179869182,34359738367,68719476735] [some 14,some 15,some 16,some 17,some 18,some 19,some 20,some 21,some 22,some 23,some 24,some 25,some 26,some 27,some 28,some 29,some 30,some 31,some 32,some 33,some 34,some 35,some 36,some 37,some 38,some 39,some 40,some 41,some 42,some 43,some 44,some 45,some 46,some 47,some 48,none,none] [some (14,_),some (15,_),some (16,_),some (17,_),some (18,_),some (19,_),some (20,_),some (21,_),some (22,_),some (23,_),some (24,_),some (25,_),some (26,_),some (27,_),some (28,_),some (29,_),some (30,_),some (31,_),some (32,_),some (33,_),some (34,_),some (35,_),some (36,_),some (37,_),some (38,_),some (39,_),some (40,_),some (41,_),some (42,_),some (43,_),some (44,_),some (45,_),some (46,_),some (47,_),some (48,_),none,none] [35,36] [5,13,22,31] U (by decide) (by decide) (M.free (by decide) U U ?uM (M.free (by decide) U U ?uN (M.free (by decide) U U ?uO (M.free (by decide) U U ?uP (M.free (by decide) U U ?uQ (M.held (by decide) U U ?zH (M.free (by decide) U U ?zI (M.free (by decide) U U ?zJ (M.free (by decide) U U ?zK (M.free (by decide) U U ?zL (M.free (by decide) U U ?uR (M.free (by decide) U U ?Kz (M.free (by decide) U U ?KA (M.held (by decide) U U ?KC (M.free (by decide) U U ?KD (M.free (by decide) U U ?KE (M.free (by decide) U U ?KF (M.free (by decide) U U ?KG (M.free (by decide) U U ?KH (M.free (by decide) U U ?KI (M.free (by decide) U U ?KJ (M.free (by decide) U U ?KL (M.held (by decide) U U ?KM (M.free (by decide) U U ?Yn (M.free (by decide) U U ?Yo (M.free (by decide) U U ?Yp (M.free (by decide) U U ?Yq (M.free (by decide) U U ?Yr (M.free (by decide) U U ?Yt (M.free (by decide) U U ?Yu (M.free (by decide) U U ?Yv (M.held (by decide) U U ?Yw (M.free (by decide) U U ?Yx (M.free (by decide) U U ?Yy (M.free (by decide) U U ?Yz (M.skip (M.skip M.nil))))))))))))))))))))))))))))))))))))) ?KN
  case uM=>(intro _;exact Z.mv rfl)
  case uN=>(intro _;exact Z.mv rfl)
  case uO=>(intro _;exact Z.mv rfl)
  case uP=>(intro _;exact Z.mul (r:=((4*j:Nat):Int)) rfl rfl (IntWalk.i64_in _ (by omega)))
  case uQ=>(intro _;exact Z.ia cK rfl rfl (by omega) g0 (by rfl))
  case zH=>exact Z.fO oW rfl
  case zI=>(intro _;exact Z.cv Tryz.underlying108 rfl (IntWalk.u32_in _ (by omega)) (by rw[Tryz.underlying5];rfl))
  case zJ=>(intro _;exact Z.TA rfl rfl (by omega))
  case zK=>(intro _;exact Z.mv rfl)
  case zL=>(intro _;exact Z.mv rfl)
  case uR=>(intro _;exact Z.mul (r:=((4*j:Nat):Int)) rfl rfl (IntWalk.i64_in _ (by omega)))
  case Kz=>(intro _;exact Z.add (r:=((4*j+1:Nat):Int)) rfl rfl (IntWalk.i64_in _ (by omega)))
  case KA=>(intro _;exact Z.ia cK rfl rfl (by omega) g1 (by rfl))
  case KC=>exact Z.fO oW rfl
  case KD=>(intro _;exact Z.cv Tryz.underlying108 rfl (IntWalk.u32_in _ (by omega)) (by rw[Tryz.underlying5];rfl))
  case KE=>(intro _;exact Z.TA rfl rfl (by omega))
  case KF=>(intro _;exact Z.wor rfl rfl)
  case KG=>(intro _;exact Z.mv rfl)
  case KH=>(intro _;exact Z.mv rfl)
  case KI=>(intro _;exact Z.mul (r:=((4*j:Nat):Int)) rfl rfl (IntWalk.i64_in _ (by omega)))
  case KJ=>(intro _;exact Z.add (r:=((4*j+2:Nat):Int)) rfl rfl (IntWalk.i64_in _ (by omega)))
  case KL=>(intro _;exact Z.ia cK rfl rfl (by omega) g2 (by rfl))
  case KM=>exact Z.fO oW rfl
  case Yn=>(intro _;exact Z.cv Tryz.underlying108 rfl (IntWalk.u32_in _ (by omega)) (by rw[Tryz.underlying5];rfl))
  case Yo=>(intro _;exact Z.TA rfl rfl (by omega))
  case Yp=>(intro _;exact Z.wor rfl rfl)
  case Yq=>(intro _;exact Z.mv rfl)
  case Yr=>(intro _;exact Z.mv rfl)
  case Yt=>(intro _;exact Z.mul (r:=((4*j:Nat):Int)) rfl rfl (IntWalk.i64_in _ (by omega)))
  case Yu=>(intro _;exact Z.add (r:=((4*j+3:Nat):Int)) rfl rfl (IntWalk.i64_in _ (by omega)))
  case Yv=>(intro _;exact Z.ia cK rfl rfl (by omega) g3 (by rfl))
  case Yw=>exact Z.fO oW rfl
  case Yx=>(intro _;exact Z.cv Tryz.underlying108 rfl (IntWalk.u32_in _ (by omega)) (by rw[Tryz.underlying5];rfl))
  case Yy=>(intro _;exact Z.wor rfl rfl)
  case Yz=>(intro _;exact Z.bl wN rfl rfl (bz rfl))
  refine CH.cons U U (by decide)<|D.ap 0 wN U U (by omega) U (.sl (kz U)) (by first|omega|(simp;omega)) hap λp49=>?_
  refine CH.cons U U (by decide)<|D.qu (Z.as U)<|CH.nil<|?_
  simp only[app,bS]
  refine UQ.aB<|UQ.then<|S.rg<|Q.mv U<|S.qu (Z.add (r:=((j+1:Nat):Int)) U U (IntWalk.i64_in _ (by omega)))<|Q.as U<|US.nil<|?_
  refine S.back (j+1,p49) ⟨rfl,rfl,rfl,trivial⟩ (.refl _) (by omega) (by omega)
 ·have hj16:j=16:=by omega
  subst hj16
  refine S.sq<|Q.rg<|Q.mv U<|Q.bi U U U<|Q.nt<|S.cF U (decide_eq_false (by omega))<|UW.exit<|UQ.pass<|UQ.pass<|UQ.here<|UQ.then<|S.sq<|Q.rg<|Q.as U<|Q.nt<|UW.block<|S.loop (λj:Nat×Nat=>[(5,.v (.int .i64 (j.1:Int))),(3,.own j.2 0 j.1 1)]) (λj=>[(j.2,.row 108 1 (encR (bE b j.1)))]) (λj=>16<=j.1/\j.1<=64) (λj=>64-j.1) (16,r) ⟨Nat.le_refl _,by show 16<=64;decide⟩ ⟨rfl,rfl,trivial⟩ (.refl _)<|?_
  rintro⟨j,r⟩ hj
  dsimp only at hj⊢
  have hwl:=jM b j
  have hrl:=tC (bE b j)
  have hrs:=Ei (bE b j)
  by_cases hlt:j<64
  ·have hsu:bE b (j+1)=bE b j++[Bc (bE b j) j]:=by rw[bE,if_neg (by omega)]
   have hap:=F5 (bE b j) j (Bc (bE b j) j) (by omega)
   rw[<-hsu] at hap
   have g2:=mO (bE b j) (j-2) (by omega)
   have g7:=mO (bE b j) (j-7) (by omega)
   have g15:=mO (bE b j) (j-15) (by omega)
   have g16:=mO (bE b j) (j-16) (by omega)
   refine S.sq<|Q.rg<|Q.mv U<|Q.bi U U U<|Q.nt<|S.cT U (decide_eq_true (by omega))<|UW.skip<|UQ.then<|S.sq<|UW.block<|Q.rg<|Q.mv U<|Q.mv U<|S.qu (Z.sub U U (IntWalk.i64_in _ (by omega)))<|S.qu (Z.io jg U U (by omega) (by omega))<|S.qu (Z.II 0 jo U U (m:=j-15) (by omega) hrs g15)<|Q.as U<|Q.nt<|Q.rg<|Q.mv U<|Q.mv U<|S.qu (Z.sub U U (IntWalk.i64_in _ (by omega)))<|S.qu (Z.io jg U U (by omega) (by omega))<|S.qu (Z.II 0 jo U U (m:=j-2) (by omega) hrs g2)<|Q.as U<|Q.nt<|Q.rg<|Q.mv U<|S.qu (Z.call U U (λ_=>jY _ _ (by omega) (by omega) _))<|Q.mv U<|S.qu (Z.call U U (λ_=>jY _ _ (by omega) (by omega) _))<|S.qu (Z.vZ U U)<|Q.mv U<|S.qu (Z.FM U U (by omega))<|S.qu (Z.vZ U U)<|Q.as U<|Q.nt<|Q.rg<|Q.mv U<|S.qu (Z.call U U (λ_=>jY _ _ (by omega) (by omega) _))<|Q.mv U<|S.qu (Z.call U U (λ_=>jY _ _ (by omega) (by omega) _))<|S.qu (Z.vZ U U)<|Q.mv U<|S.qu (Z.FM U U (by omega))<|S.qu (Z.vZ U U)<|Q.as U<|Q.nt<|?_
   refine' UW.bG (by kernel_rfl) [0,0,0,0,8,28,60,126,0,510,0,0,2048,7168,15360,32766,65534,131071,262143] [some 80,some 81,some 82,some 83,some 84,some 85,some 86,some 87,some 88,some 89,some 90,some 91,some 92,some 93,some 94,some 95,some 96,none,none] [some (80,_),some (81,_),some (82,_),some (83,_),some (84,_),some (85,_),some (86,_),some (87,_),some (88,_),some (89,_),some (90,_),some (91,_),some (92,_),some (93,_),some (94,_),some (95,_),some (96,_),none,none] [17,18] [6,14] U (by decide) (by decide) (M.free (by decide) U U ?F7 (M.free (by decide) U U ?F8 (M.free (by decide) U U ?F9 (M.free (by decide) U U ?Ga (M.free (by decide) U U ?Gb (M.free (by decide) U U ?Gc (M.held (by decide) U U ?Gd (M.free (by decide) U U ?Gf (M.free (by decide) U U ?Gg (M.free (by decide) U U ?P9 (M.free (by decide) U U ?K9 (M.free (by decide) U U ?YA (M.free (by decide) U U ?YB (M.free (by decide) U U ?YC (M.held (by decide) U U ?YD (M.free (by decide) U U ?YE (M.free (by decide) U U ?YF (M.skip (M.skip M.nil))))))))))))))))))) ?VK
   case F7=>(intro _;exact Z.mv rfl)
   case F8=>(intro _;exact Z.mv rfl)
   case F9=>(intro _;exact Z.mv rfl)
   case Ga=>(intro _;exact Z.mv rfl)
   case Gb=>(intro _;exact Z.sub rfl rfl (IntWalk.i64_in _ (by omega)))
   case Gc=>(intro _;exact Z.io jg rfl rfl (by omega) (by omega))
   case Gd=>exact Z.II 0 jo rfl rfl (m:=j-7) (by omega) hrs g7
   case Gf=>(intro _;exact Z.rq rfl rfl)
   case Gg=>(intro _;exact Z.mv rfl)
   case P9=>(intro _;exact Z.rq rfl rfl)
   case K9=>(intro _;exact Z.mv rfl)
   case YA=>(intro _;exact Z.mv rfl)
   case YB=>(intro _;exact Z.sub rfl rfl (IntWalk.i64_in _ (by omega)))
   case YC=>(intro _;exact Z.io jg rfl rfl (by omega) (by omega))
   case YD=>exact Z.II 0 jo rfl rfl (m:=j-16) (by omega) hrs g16
   case YE=>(intro _;exact Z.rq rfl rfl)
   case YF=>(intro _;exact Z.bl wN rfl rfl (bz rfl))
   refine CH.cons U U (by decide)<|D.ap 0 wN U U (by omega) U (.sl (kz U)) (by first|omega|(simp;omega)) hap λp97=>?_
   refine CH.cons U U (by decide)<|D.qu (Z.as U)<|CH.nil<|?_
   simp only[app,bS]
   refine UQ.aB<|UQ.then<|S.rg<|Q.mv U<|S.qu (Z.add (r:=((j+1:Nat):Int)) U U (IntWalk.i64_in _ (by omega)))<|Q.as U<|US.nil<|?_
   refine S.back (j+1,p97) ⟨rfl,rfl,trivial⟩ (.refl _) (by omega) (by omega)
  ·have P7:j=64:=by omega
   subst P7
   refine S.sq<|Q.rg<|Q.mv U<|Q.bi U U U<|Q.nt<|S.cF U (decide_eq_false (by omega))<|UW.exit<|UQ.pass<|UQ.pass<|UQ.here<|UQ.then<|Q.rg<|Q.mv U<|Q.as U<|US.fV 2 0 (rs:=encR (bE b 64)) U U (by rw[hrl,hwl];decide) (by rw[List.drop_zero,List.take_of_length_le (by omega)])<|?_
   refine Q.nt<|UW.ret<|S.bH (λ_=>ak U U)<|?_
   rfl
end Go.Proofs.YtonpfomjoiaacaaGreatDoor
end
