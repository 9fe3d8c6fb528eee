/- A part of the proof. -/
import Derived.Test.YtonpfomjoiaacaaGreatDoorMz14
import Derived.Test.YtonpfomjoiaacaaGreatDoorMz27
set_option maxRecDepth 100000
set_option maxHeartbeats 4000000
set_option linter.unusedSectionVars false
set_option linter.unusedVariables false
set_option linter.unusedSimpArgs false
section
namespace Go.Proofs.YtonpfomjoiaacaaGreatDoor
open Go Go.fT Go.RowKit
theorem lF:Sz Tryz.prog 205=some (8,203,1):=by kernel_rfl
theorem wS:Sz Tryz.prog 243=some (64,203,1):=by kernel_rfl
def Lv(x n:Int):Int:=TV (Jr x n) (Cb x (32-n))
theorem TW(a b:Int):TV a b=TV b a:=by unfold TV;rw[BitVec.or_comm]
theorem V8:∀n:Fin 32,0<n.val->IntKind.u64.wrap (BitVec.ofInt IntKind.u64.bits (IntKind.u64.wrap (IntKind.i64.wrap (0-(n.val:Int))))&&&BitVec.ofInt IntKind.u64.bits 31).toNat=32-(n.val:Int):=by decide
theorem Rf(x n:Int)(h0:0<n)(h1:n<32)(H:Hp):au Tryz.prog 291 [.v (.int .u32 x),.v (.int .i64 (IntKind.i64.wrap (0-n)))] H (bz H (.v (.int .u32 (Lv x n)))):=by
 have hr:=V8 ⟨n.toNat,by omega⟩ (by show 0<n.toNat;omega)
 rw[show(((⟨n.toNat,by omega⟩:Fin 32).val:Nat):Int)=n from Int.toNat_of_nonneg (by omega)] at hr
 refine aF (n:=17) (H0:=H) (I:=[]) Tryz.func291 (by kernel_rfl) U (by rw[Tryz.ntmps291];rfl) .nil<|?_
 refine Q.rg<|Q.as U<|Q.nt<|Q.rg<|Q.mv U<|S.qu (Z.cv Tryz.underlying105 U U (by rw[Tryz.underlying3];rfl))<|?_
 refine S.qu (Z.eq (u':=.v (.int .u64 (32-n))) (Z.bi U U U) (by rw[hr]))<|?_
 refine Q.as U<|Q.nt<|Q.rg<|Q.mv U<|Q.mv U<|S.qu (Z.Re U U (by omega))<|Q.mv U<|Q.mv U<|S.qu (Z.sub (r:=n) U U (by rw[show(32:Int)-(32-n)=n from by omega];exact IntWalk.u64_in _ (by omega)))<|?_
 refine S.qu (Z.DU U U (by omega))<|S.qu (Z.wor U U)<|Q.as U<|Q.nt<|UW.ret<|S.bK (λ_=>ak U U)<|?_
 focus (rw[TW];rfl;done)
theorem o8(x n:Int)(h0:0<n)(h1:n<32)(H:Hp):au Tryz.prog 278 [.v (.int .u32 x),.v (.int .i64 n)] H (bz H (.v (.int .u32 (Lv x n)))):=by
 refine aF (n:=9) (H0:=H) (I:=[]) Tryz.func278 (by kernel_rfl) U (by rw[Tryz.ntmps278];rfl) .nil<|?_
 refine Q.rg<|Q.as U<|Q.nt<|Q.rg<|Q.mv U<|Q.mv U<|S.qu (Z.neg U U)<|S.qu (Z.call U U (λH=>Rf x n h0 h1 H))<|Q.as U<|Q.nt<|UW.ret<|S.bK (λ_=>ak U U)<|?_
 rfl
def Oe(x a b c:Int):Int:=Lu (Lu (Lv x a) (Lv x b)) (Jr x c)
def Og(x a b c:Int):Int:=Lu (Lu (Lv x a) (Lv x b)) (Lv x c)
theorem DV(x a b c:Int)(ha:0<a/\a<32)(hb:0<b/\b<32)(hc:0<=c)(H:Hp):au Tryz.prog 277 [.v (.int .u32 x),.v (.int .i64 a),.v (.int .i64 b),.v (.int .u64 c)] H (bz H (.v (.int .u32 (Oe x a b c)))):=by
 refine aF (n:=20) (H0:=H) (I:=[]) Tryz.func277 (by kernel_rfl) U (by rw[Tryz.ntmps277];rfl) .nil<|?_
 refine Q.rg<|Q.as U<|Q.nt<|Q.rg<|Q.mv U<|Q.mv U<|S.qu (Z.call U U (λ_=>o8 _ _ (by omega) (by omega) _))<|Q.mv U<|Q.mv U<|S.qu (Z.call U U (λ_=>o8 _ _ (by omega) (by omega) _))<|S.qu (Z.uw U U)<|Q.mv U<|Q.mv U<|S.qu (Z.DU U U (by omega))<|S.qu (Z.uw U U)<|Q.as U<|Q.nt<|UW.ret<|S.bK (λ_=>ak U U)<|?_
 rfl
theorem DW(x a b c:Int)(ha:0<a/\a<32)(hb:0<b/\b<32)(hc:0<c/\c<32)(H:Hp):au Tryz.prog 258 [.v (.int .u32 x),.v (.int .i64 a),.v (.int .i64 b),.v (.int .i64 c)] H (bz H (.v (.int .u32 (Og x a b c)))):=by
 refine aF (n:=20) (H0:=H) (I:=[]) Tryz.func258 (by kernel_rfl) U (by rw[Tryz.ntmps258];rfl) .nil<|?_
 refine Q.rg<|Q.as U<|Q.nt<|Q.rg<|Q.mv U<|Q.mv U<|S.qu (Z.call U U (λ_=>o8 _ _ (by omega) (by omega) _))<|Q.mv U<|Q.mv U<|S.qu (Z.call U U (λ_=>o8 _ _ (by omega) (by omega) _))<|S.qu (Z.uw U U)<|Q.mv U<|Q.mv U<|S.qu (Z.call U U (λ_=>o8 _ _ (by omega) (by omega) _))<|S.qu (Z.uw U U)<|Q.as U<|Q.nt<|UW.ret<|S.bK (λ_=>ak U U)<|?_
 rfl
theorem jw(x n:Int)(h0:0<=n)(h1:n<=32)(H:Hp):au Tryz.prog 151 [.v (.int .u32 x),.v (.int .u64 n)] H (bz H (.v (.int .u32 (Lv x n)))):=by
 refine aF (n:=13) (H0:=H) (I:=[]) Tryz.func151 (by kernel_rfl) U (by rw[Tryz.ntmps151];rfl) .nil<|?_
 refine Q.rg<|Q.as U<|Q.nt<|Q.rg<|Q.mv U<|Q.mv U<|S.qu (Z.DU U U (by omega))<|Q.mv U<|Q.mv U<|S.qu (Z.sub U U (IntWalk.u64_in _ (by omega)))<|S.qu (Z.Re U U (by omega))<|S.qu (Z.wor U U)<|Q.as U<|Q.nt<|UW.ret<|S.bK (λ_=>ak U U)<|?_
 rfl
def bf(b:List Int):List (List AV):=b.map λc=>[.v (.int .u8 c)]
def iN(w:List Int):List AV:=w.map λc=> .v (.int .u32 c)
theorem bY(b:List Int):(bf b).length=b.length:=List.length_map ..
theorem kC(b:List Int):∀cs∈bf b,cs.length=1:=by
 intro cs h
 obtain⟨c,_,rfl⟩:=List.mem_map.1 h
 rfl
theorem o9(b:List Int)(j:Nat)(h:j<b.length):(bf b)[j]? =some [.v (.int .u8 (b.getD j 0))]:=by
 unfold bf
 rw[List.getElem?_map,List.getElem?_eq_getElem h,List.getD_eq_getElem?_getD,List.getElem?_eq_getElem h];rfl
theorem mW(b:List Int):(iN b).length=b.length:=List.length_map ..
theorem uX(b:List Int)(j:Nat)(h:j<b.length):(iN b)[j]? =some (.v (.int .u32 (b.getD j 0))):=by
 unfold iN
 rw[List.getElem?_map,List.getElem?_eq_getElem h,List.getD_eq_getElem?_getD,List.getElem?_eq_getElem h];rfl
theorem DX(b:List Int)(j:Nat)(x:Int):(iN b).set j (.v (.int .u32 x))=iN (b.set j x):=by unfold iN;rw[List.map_set]
theorem Az(b:List Int):(iN b).all aR=true:=by
 rw[List.all_eq_true]
 intro x hx
 obtain⟨c,_,rfl⟩:=List.mem_map.1 hx
 rfl
def eO(b:List Int):Prop:=∀c∈b,0<=c/\c<256
theorem eO.at{b:List Int}(h:eO b)(j:Nat):0<=b.getD j 0/\b.getD j 0<256:=by
 by_cases hj:j<b.length
 ·rw[List.getD_eq_getElem?_getD,List.getElem?_eq_getElem hj]
  exact h _ (List.getElem_mem hj)
 ·rw[List.getD_eq_getElem?_getD,List.getElem?_eq_none (by omega)]
  decide
def fw(b:List Int)(t:Nat):Nat->Int
 |0=>0
 |k+1=>TV (Cb (fw b t k) 8) (b.getD (4*t+k) 0)
def zo(w:List Int)(t:Nat):Int:=pR (pR (pR (Oe (w.getD (t-2) 0) 17 19 10) (w.getD (t-7) 0)) (Oe (w.getD (t-15) 0) 7 18 3)) (w.getD (t-16) 0)
def bB(b:List Int):Nat->List Int
 |0=>[]
 |t+1=>bB b t++[if t<16 then fw b t 4 else zo (bB b t) t]
theorem jl(b:List Int):∀t,(bB b t).length=t
 |0=>rfl
 |t+1=>by rw[bB,List.length_append,jl b t];rfl
def jN(w:List Int)(n:Nat):List Int:=w++List.replicate (n-w.length) 0
theorem vY(w:List Int)(n:Nat)(h:w.length<=n):(jN w n).length=n:=by unfold jN;rw[List.length_append,List.length_replicate];omega
theorem TY(w:List Int)(n j:Nat)(h:j<w.length):(jN w n).getD j 0=w.getD j 0:=by
 unfold jN
 rw[List.getD_eq_getElem?_getD,List.getD_eq_getElem?_getD,List.getElem?_append_left h]
theorem Rh(w:List Int)(n:Nat)(x:Int)(h:w.length<n):(jN w n).set w.length x=jN (w++[x]) n:=by
 unfold jN
 rw[List.set_append_right _ _ (Nat.le_refl _),Nat.sub_self,List.length_append]
 rw[show n-w.length=(n-(w.length+1))+1 from by omega,List.replicate_succ,List.set_cons_zero,List.append_assoc]
 rfl
theorem Oh(w:List Int)(n:Nat)(x y:Int)(h:w.length<n):(jN (w++[y]) n).set w.length x=jN (w++[x]) n:=by
 unfold jN
 rw[List.append_assoc,List.set_append_right _ _ (Nat.le_refl _),Nat.sub_self,List.length_append,List.length_append,List.append_assoc]
 rfl
theorem DY(w:List Int)(n:Nat)(h:w.length=n):jN w n=w:=by unfold jN;rw[h];simp
theorem Ri(w:List Int)(n:Nat)(h:w.length<n):jN w n=jN (w++[0]) n:=by
 unfold jN
 rw[List.length_append,show n-w.length=(n-(w.length+1))+1 from by omega,List.replicate_succ,List.append_assoc];rfl
theorem ldF(w:List Int)(n:Nat)(i:Int)(m:Nat)(hi:i=m)(hm:m<w.length)(hn:w.length<=n):(iN (jN w n))[0+i.toNat*1]? =some (.v (.int .u32 (w.getD m 0))):=by
 rw[show 0+i.toNat*1=m from by omega,uX _ _ (by rw[vY _ _ hn];omega),TY _ _ _ hm]
theorem setF(w:List Int)(n:Nat)(i x:Int)(hi:i=w.length)(h:w.length<n):uB (iN (jN w n)) (0+i.toNat*1) [.v (.int .u32 x)]=some (iN (jN (w++[x]) n)):=by
 rw[show 0+i.toNat*1=w.length from by omega,zn _ _ _ (by rw[mW,vY _ _ (by omega)];omega),DX,Rh _ _ _ h]
theorem setF2(w:List Int)(n:Nat)(i x y:Int)(hi:i=w.length)(h:w.length<n):uB (iN (jN (w++[y]) n)) (0+i.toNat*1) [.v (.int .u32 x)]=some (iN (jN (w++[x]) n)):=by
 rw[show 0+i.toNat*1=w.length from by omega,zn _ _ _ (by rw[mW,vY _ _ (by rw[List.length_append];simp;omega)];omega),DX,Oh _ _ _ _ h]
theorem Oi(b:List Int)(hl:b.length=64)(hb:eO b)(H:Hp):au Tryz.prog 256 [.sl (bf b)] H (bz H (.agg (iN (bB b 64)))):=by
 have hel:=bY b
 have hes:=kC b
 refine aF (n:=58) (H0:=H) (I:=[]) Tryz.func256 (by kernel_rfl) U (by rw[Tryz.ntmps256];rfl) .nil<|?_
 refine Q.rg<|S.dd<|D.al Tp U (us:=iN (jN [] 64)) U U λp2=>Q.nt<|S.sq<|Q.rg<|Q.mv U<|Q.nt<|UW.block<|S.loop (λj:Nat=>[(6,.v (.int .i64 (j:Int))),(2,.ptr p2 0),(0,.sl (bf b))]) (λj=>[(p2,.box 243 (iN (jN (bB b j) 64)))]) (λj=>j<=64) (λj=>64-j) 0 (Nat.zero_le _) ⟨rfl,rfl,rfl,trivial⟩ (.refl _)<|?_
 intro j hj
 have hwl:=jl b j
 have hfl:=vY (bB b j) 64 (by omega)
 by_cases hlt:j<64
 ·by_cases h16:j<16
  ·have h4l:(((bf b).take (4*j+4)).drop (4*j)).length=4:=by rw[List.length_drop,List.length_take,hel];omega
   have hsu:bB b (j+1)=bB b j++[fw b j 4]:=by rw[bB,if_pos h16]
   refine Q.rg<|Q.bi U U U<|Q.nt<|S.sq<|S.cT U (decide_eq_true (by omega))<|UW.skip<|UQ.then<|S.sq<|UW.block<|Q.rg<|Q.mv U<|Q.as U<|Q.nt<|S.sq<|Q.rg<|Q.mv U<|Q.bi U U U<|Q.nt<|S.cT U (decide_eq_true (by omega))<|S.sq<|Q.rg<|Q.mv U<|Q.mv U<|S.qu (Z.mul (r:=((4*j:Nat):Int)) U U (IntWalk.i64_in _ (by omega)))<|Q.mv U<|S.qu (Z.mul (r:=((4*j:Nat):Int)) U U (IntWalk.i64_in _ (by omega)))<|S.qu (Z.add (r:=((4*j+4:Nat):Int)) U U (IntWalk.i64_in _ (by omega)))<|S.qu (Z.Vk bR U hes (.both U U) (by omega) (by omega) U)<|S.qu (Z.eq (u':=.v (.int .i64 4)) (Z.fG bR U) (by rw[h4l];rfl))<|?_
   refine Q.mv U<|Q.nt<|UW.block<|?_
   rw[Ri (bB b j) 64 (by omega)]
   refine S.loop (λk:Nat=>[(19,.v (.int .i64 (k:Int))),(18,.v (.int .i64 4)),(17,.sl (((bf b).take (4*j+4)).drop (4*j))),(3,.v (.int .i64 (j:Int))),(6,.v (.int .i64 (j:Int))),(2,.ptr p2 0),(0,.sl (bf b))]) (λk=>[(p2,.box 243 (iN (jN (bB b j++[fw b j k]) 64)))]) (λk=>k<=4) (λk=>4-k) 0 (Nat.zero_le _) ⟨rfl,rfl,rfl,rfl,rfl,rfl,rfl,trivial⟩ (.refl _)<|?_
   intro k hk
   by_cases hk4:k<4
   ·have hat:=hb.at (4*j+k)
    have hget:(((bf b).take (4*j+4)).drop (4*j))[((k:Nat):Int).toNat]? =some [.v (.int .u8 (b.getD (4*j+k) 0))]:=by
     rw[Int.toNat_natCast,List.getElem?_drop,List.getElem?_take_of_lt (by omega),o9 _ _ (by omega)]
    have hld:=ldF (bB b j++[fw b j k]) 64 (j:Int) j U (by rw[List.length_append,hwl];simp) (by rw[List.length_append,hwl];simp;omega)
    rw[show(bB b j++[fw b j k]).getD j 0=fw b j k from by rw[List.getD_eq_getElem?_getD,List.getElem?_append_right (by omega),hwl,Nat.sub_self];rfl] at hld
    have hset:=setF2 (bB b j) 64 (j:Int) (fw b j (k+1)) (fw b j k) (by rw[hwl]) (by omega)
    refine Q.rg<|Q.bi U U U<|Q.nt<|S.sq<|S.cT U (decide_eq_true (by omega))<|UW.skip<|UQ.then<|S.sq<|UW.block<|Q.rg<|S.qu (Z.ia bR U U (by omega) hget (by rfl))<|?_
    refine S.qu (Z.fE nM U)<|Q.as U<|Q.nt<|S.rg<|Q.mv U<|Q.mv U<|S.qu (Z.DR wS U U (by omega) (by omega))<|S.qu (Z.di 0 jo U U hld)<|S.qu (Z.Re U U (by omega))<|Q.mv U<|S.qu (Z.cv Tryz.underlying203 U (IntWalk.u32_in _ (by omega)) (by rw[Tryz.underlying5];rfl))<|?_
    refine S.qu (Z.wor U U)<|S.qu (Z.DR wS U U (by omega) (by omega))<|S.s<|D.st 0 jo U U U U U U hset U λ_=>US.nil<|UQ.aB<|UQ.then<|S.rg<|S.qu (Z.add (r:=((k+1:Nat):Int)) U U (IntWalk.i64_in _ (by omega)))<|Q.mv U<|US.nil<|?_
    refine S.back _ ⟨rfl,rfl,rfl,rfl,rfl,rfl,rfl,trivial⟩ (.refl _) (by omega) (by omega)
   ·have hk4':k=4:=by omega
    subst hk4'
    rw[<-hsu]
    refine Q.rg<|Q.bi U U U<|Q.nt<|S.sq<|S.cF U (decide_eq_false (by omega))<|UW.exit<|UQ.pass<|UQ.pass<|UQ.here<|UQ.then<|UW.exit<|UQ.pass<|UQ.here<|UQ.then<|S.rg<|S.qu (Z.add (r:=((j+1:Nat):Int)) U U (IntWalk.i64_in _ (by omega)))<|Q.mv U<|US.nil<|?_
    refine S.back _ ⟨rfl,rfl,rfl,trivial⟩ (.refl _) (by omega) (by omega)
  ·have hsu:bB b (j+1)=bB b j++[zo (bB b j) j]:=by rw[bB,if_neg h16]
   have h2:=ldF (bB b j) 64 ((j:Int)-2) (j-2) (by omega) (by omega) (by omega)
   have h7:=ldF (bB b j) 64 ((j:Int)-7) (j-7) (by omega) (by omega) (by omega)
   have h15:=ldF (bB b j) 64 ((j:Int)-15) (j-15) (by omega) (by omega) (by omega)
   have h16':=ldF (bB b j) 64 ((j:Int)-16) (j-16) (by omega) (by omega) (by omega)
   have hset:=setF (bB b j) 64 (j:Int) (zo (bB b j) j) (by rw[hwl]) (by omega)
   rw[<-hsu] at hset
   refine Q.rg<|Q.bi U U U<|Q.nt<|S.sq<|S.cT U (decide_eq_true (by omega))<|UW.skip<|UQ.then<|S.sq<|UW.block<|Q.rg<|Q.mv U<|Q.as U<|Q.nt<|S.sq<|Q.rg<|Q.mv U<|Q.bi U U U<|Q.nt<|S.cF U (decide_eq_false (by omega))<|UW.skip<|UQ.then<|?_
   refine' UW.bG (by kernel_rfl) [0,0,2,6,14,30,0,64,192,448,1022,0,2048,6144,14336,30782,65534,0,131072,393216,917504,2097150,4194303,8388607] [some 33,some 34,some 35,some 36,some 37,some 38,some 39,some 40,some 41,some 42,some 43,some 44,some 45,some 46,some 47,some 48,some 49,some 50,some 51,some 52,some 53,some 54,some 55,none] [some (33,_),some (34,_),some (35,_),some (36,_),some (37,_),some (38,_),some (39,_),some (40,_),some (41,_),some (42,_),some (43,_),some (44,_),some (45,_),some (46,_),some (47,_),some (48,_),some (49,_),some (50,_),some (51,_),some (52,_),some (53,_),some (54,_),some (55,_),none] [23] [4,9,14,20] U (by decide) (by decide) (M.free (by decide) U U ?DZ (M.free (by decide) U U ?D5 (M.free (by decide) U U ?D6 (M.free (by decide) U U ?D7 (M.held (by decide) U U ?D8 (M.free (by decide) U U ?D9 (M.free (by decide) U U ?Ea (M.free (by decide) U U ?Eb (M.free (by decide) U U ?Ec (M.held (by decide) U U ?Ed (M.free (by decide) U U ?Js (M.free (by decide) U U ?Jt (M.free (by decide) U U ?V9 (M.free (by decide) U U ?Wd (M.held (by decide) U U ?We (M.free (by decide) U U ?Wh (M.free (by decide) U U ?Wi (M.free (by decide) U U ?Wj (M.free (by decide) U U ?Wl (M.free (by decide) U U ?Wm (M.held (by decide) U U ?Wn (M.free (by decide) U U ?Wo (M.free (by decide) U U ?Wp (M.skip M.nil)))))))))))))))))))))))) ?TZ
   case DZ=>(intro _;exact Z.mv rfl)
   case D5=>(intro _;exact Z.mv rfl)
   case D6=>(intro _;exact Z.sub rfl rfl (IntWalk.i64_in _ (by omega)))
   case D7=>(intro _;exact Z.DR wS rfl rfl (by omega) (by omega))
   case D8=>exact Z.di 0 jo rfl rfl h2
   case D9=>(intro _;exact Z.call rfl rfl (λ_=>DV _ _ _ _ (by omega) (by omega) (by omega) _))
   case Ea=>(intro _;exact Z.mv rfl)
   case Eb=>(intro _;exact Z.sub rfl rfl (IntWalk.i64_in _ (by omega)))
   case Ec=>(intro _;exact Z.DR wS rfl rfl (by omega) (by omega))
   case Ed=>exact Z.di 0 jo rfl rfl h7
   case Js=>(intro _;exact Z.pU rfl rfl)
   case Jt=>(intro _;exact Z.mv rfl)
   case V9=>(intro _;exact Z.sub rfl rfl (IntWalk.i64_in _ (by omega)))
   case Wd=>(intro _;exact Z.DR wS rfl rfl (by omega) (by omega))
   case We=>exact Z.di 0 jo rfl rfl h15
   case Wh=>(intro _;exact Z.call rfl rfl (λ_=>DV _ _ _ _ (by omega) (by omega) (by omega) _))
   case Wi=>(intro _;exact Z.pU rfl rfl)
   case Wj=>(intro _;exact Z.mv rfl)
   case Wl=>(intro _;exact Z.sub rfl rfl (IntWalk.i64_in _ (by omega)))
   case Wm=>(intro _;exact Z.DR wS rfl rfl (by omega) (by omega))
   case Wn=>exact Z.di 0 jo rfl rfl h16'
   case Wo=>(intro _;exact Z.pU rfl rfl)
   case Wp=>(intro _;exact Z.DR wS rfl rfl (by omega) (by omega))
   refine CH.df U U<|D.st 0 jo U U U U U U hset U λ_=>CH.nil<|?_
   simp only[app,bV]
   refine UQ.aB<|UQ.then<|S.rg<|S.qu (Z.add (r:=((j+1:Nat):Int)) U U (IntWalk.i64_in _ (by omega)))<|Q.mv U<|US.nil<|?_
   refine S.back _ ⟨rfl,rfl,rfl,trivial⟩ (.refl _) (by omega) (by omega)
 ·have Oj:j=64:=by omega
  subst Oj
  rw[DY _ _ hwl]
  have hsz:(Tryz.prog.info? 243).map (·.size)=some (iN (bB b 64)).length:=by rw[mW,hwl];kernel_rfl
  refine Q.rg<|Q.bi U U U<|Q.nt<|S.sq<|S.cF U (decide_eq_false (by omega))<|UW.exit<|UQ.pass<|UQ.pass<|UQ.here<|UQ.then<|Q.rg<|S.qu (Z.dA 0 K6 U U (by rw[mW,hwl]))<|?_
  refine S.s<|D.uq 0 K6 U U U U (Az _) (by rw[mW,hwl]) (by rw[mW,hwl]) U λ_=>?_
  refine Q.nt<|UW.ret<|S.bK (λhd=>Ae (k:=0) hd U U U Tryz.underlying243 (by assumption))<|?_
  rfl
def encR(w:List Int):List (List AV):=w.map λc=>[.v (.int .u32 c)]
theorem qU(b:List Int):(encR b).length=b.length:=List.length_map ..
theorem Cs(b:List Int):∀cs∈encR b,cs.length=1:=by
 intro cs h
 obtain⟨c,_,rfl⟩:=List.mem_map.1 h
 rfl
theorem lG(b:List Int)(j:Nat)(h:j<b.length):(encR b)[j]? =some [.v (.int .u32 (b.getD j 0))]:=by
 unfold encR
 rw[List.getElem?_map,List.getElem?_eq_getElem h,List.getD_eq_getElem?_getD,List.getElem?_eq_getElem h];rfl
theorem Rj(b:List Int)(x:Int):encR (b++[x])=encR b++[[.v (.int .u32 x)]]:=by unfold encR;rw[List.map_append];rfl
theorem Ee(b:List Int)(j:Nat)(x:Int)(h:b.length<=j):(encR b).take j++[[.v (.int .u32 x)]]=encR (b++[x]):=by rw[List.take_of_length_le (by rw[qU];omega),Rj]
def Ef:List Int:=[1116352408,1899447441,3049323471,3921009573,961987163,1508970993,2453635748,2870763221,3624381080,310598401,607225278,1426881987,1925078388,2162078206,2614888103,3248222580,3835390401,4022224774,264347078,604807628,770255983,1249150122,1555081692,1996064986,2554220882,2821834349,2952996808,3210313671,3336571891,3584528711,113926993,338241895,666307205,773529912,1294757372,1396182291,1695183700,1986661051,2177026350,2456956037,2730485921,2820302411,3259730800,3345764771,3516065817,3600352804,4094571909,275423344,430227734,506948616,659060556,883997877,958139571,1322822218,1537002063,1747873779,1955562222,2024104815,2227730452,2361852424,2428436474,2756734187,3204031479,3329325298]
theorem Rk(H:Hp):au Tryz.prog 257 [] H (bz H (.agg (iN Ef))):=by
 have hsz:(Tryz.prog.info? 243).map (·.size)=some (iN Ef).length:=by kernel_rfl
 refine aF (n:=2) (H0:=H) (I:=[]) Tryz.func257 (by kernel_rfl) U (by rw[Tryz.ntmps257];rfl) .nil<|?_
 refine Q.rg<|S.dd<|D.al Tp U U U λp0=>Q.nt<|Q.rg<|S.qu (Z.bar wS Tp U U U U U)<|S.s<|D.st 0 K6 U U U U U U U U λ_=>Q.nt<|UW.ret<|S.bK (λhd=>Ae (k:=0) hd U U U Tryz.underlying243 (by assumption))<|?_
 rfl
theorem Ol(H:Hp):au Tryz.prog 150 [] H (bz H (.sl (encR Ef))):=by
 refine aF (n:=2) (H0:=H) (I:=[]) Tryz.func150 (by kernel_rfl) U (by rw[Tryz.ntmps150];rfl) .nil<|?_
 refine Q.rg<|Q.as U<|Q.nt<|Q.rg<|S.qu (Z.bl uK U U (bA U))<|Q.as U<|Q.nt<|UW.ret<|S.bK (λ_=>ak U U)<|?_
 rfl
theorem xZ(a c:Int)(k:Nat)(ha:0<=a)(hc:0<=c)(hck:c<2^k)(hb:a*2^k+c<4294967296):TV (a*2^k) c=a*2^k+c:=by
 obtain⟨a,rfl⟩:=Int.eq_ofNat_of_zero_le ha
 obtain⟨c,rfl⟩:=Int.eq_ofNat_of_zero_le hc
 have h1:((a:Int)*2^k)=((a*2^k:Nat):Int):=by simp
 have h2:c<2^k:=by
  have:((c:Nat):Int)<((2^k:Nat):Int):=by simpa using hck
  omega
 rw[h1] at hb⊢
 have h3:a*2^k+c<4294967296:=by omega
 unfold TV
 rw[show IntKind.u32.bits=32 from rfl,BitVec.toNat_or,BitVec.toNat_ofInt,BitVec.toNat_ofInt]
 have e1:(((a*2^k:Nat):Int)%((2^32:Nat):Int)).toNat=a*2^k:=by omega
 have e2:(((c:Nat):Int)%((2^32:Nat):Int)).toNat=c:=by omega
 rw[e1,e2,<-Nat.shiftLeft_eq,<-Nat.shiftLeft_add_eq_or_of_lt h2,Nat.shiftLeft_eq,IntWalk.u32_in _ (by omega)]
 omega
theorem Ju(a:Int)(k:Nat)(hk:k<=32)(ha:0<=a)(hb:a*2^k<4294967296):Cb a (k:Int)=a*2^k:=by
 unfold Cb
 rw[Int.toNat_natCast,Nat.min_eq_left (by show k<=32;exact hk),IntWalk.u32_in _ ⟨by exact Int.mul_nonneg ha (by exact Int.le_of_lt (Int.pow_pos (by decide))),by omega⟩]
theorem Wq(a:Int)(ha:0<=a)(hb:a*2^8<4294967296):Cb a 8=a*2^8:=Ju a 8 (by decide) ha hb
def beW(c0 c1 c2 c3:Int):Int:=TV (TV (TV (Cb c0 24) (Cb c1 16)) (Cb c2 8)) c3
theorem aaO(c0 c1 c2 c3:Int)(h0:0<=c0/\c0<256)(h1:0<=c1/\c1<256)(h2:0<=c2/\c2<256)(h3:0<=c3/\c3<256):beW c0 c1 c2 c3=c0*16777216+c1*65536+c2*256+c3:=by
 have s0:Cb c0 24=c0*2^24:=Ju c0 24 (by decide) h0.1 (by omega)
 have s1:Cb c1 16=c1*2^16:=Ju c1 16 (by decide) h1.1 (by omega)
 have s2:Cb c2 8=c2*2^8:=Ju c2 8 (by decide) h2.1 (by omega)
 unfold beW
 rw[s0,s1,s2]
 rw[xZ c0 (c1*2^16) 24 h0.1 (by omega) (by omega) (by omega)]
 rw[show c0*2^24+c1*2^16=(c0*2^8+c1)*2^16 from by omega,xZ _ (c2*2^8) 16 (by omega) (by omega) (by omega) (by omega)]
 rw[show(c0*2^8+c1)*2^16+c2*2^8=(c0*2^16+c1*2^8+c2)*2^8 from by omega,xZ _ c3 8 (by omega) (by omega) (by omega) (by omega)]
 omega
theorem aaP(b:List Int)(hb:eO b)(t:Nat):fw b t 4=b.getD (4*t) 0*16777216+b.getD (4*t+1) 0*65536+b.getD (4*t+2) 0*256+b.getD (4*t+3) 0:=by
 have h0:=hb.at (4*t)
 have h1:=hb.at (4*t+1)
 have h2:=hb.at (4*t+2)
 have h3:=hb.at (4*t+3)
 have a0:fw b t 0=0:=rfl
 have a1:fw b t 1=b.getD (4*t) 0:=by
  rw[fw,a0,Wq 0 (by decide) (by decide),xZ 0 _ 8 (by decide) (by exact h0.1) (by exact h0.2) (by have:=h0.2;show(0:Int)*2^8+b.getD (4*t) 0<_;omega)]
  show(0:Int)*2^8+b.getD (4*t) 0=_
  omega
 have a2:fw b t 2=b.getD (4*t) 0*256+b.getD (4*t+1) 0:=by
  rw[fw,a1,Wq _ h0.1 (by omega),xZ _ _ 8 h0.1 h1.1 (by omega) (by omega)]
  omega
 have a3:fw b t 3=b.getD (4*t) 0*65536+b.getD (4*t+1) 0*256+b.getD (4*t+2) 0:=by
  rw[fw,a2,Wq _ (by omega) (by omega),xZ _ _ 8 (by omega) h2.1 (by omega) (by omega)]
  omega
 rw[fw,a3,Wq _ (by omega) (by omega),xZ _ _ 8 (by omega) h3.1 (by omega) (by omega)]
 omega
theorem aaQ(b:List Int)(hb:eO b)(t:Nat):beW (b.getD (4*t) 0) (b.getD (4*t+1) 0) (b.getD (4*t+2) 0) (b.getD (4*t+3) 0)=fw b t 4:=by
 rw[aaP b hb,aaO _ _ _ _ (hb.at _) (hb.at _) (hb.at _) (hb.at _)]
theorem Lx(b:List Int)(hl:b.length=64)(hb:eO b)(H:Hp):au Tryz.prog 149 [.sl (bf b)] H (bz H (.sl (encR (bB b 64)))):=by
 have hel:=bY b
 refine aF (n:=99) (H0:=H) (I:=[]) Tryz.func149 (by kernel_rfl) U (by rw[Tryz.ntmps149];rfl) .nil<|?_
 refine Q.rg<|Q.as U<|Q.nt<|Q.rg<|Q.as U<|US.kG 3 108 1 (by decide) U λp3=>Q.nt<|S.sq<|Q.rg<|Q.as U<|Q.nt<|UW.block<|S.loop (λj:Nat×Nat=>[(4,.v (.int .i64 (j.1:Int))),(3,.own j.2 0 j.1 1),(0,.sl (bf b))]) (λj=>[(j.2,.row 108 1 (encR (bB b j.1)))]) (λj=>j.1<=16) (λj=>16-j.1) (0,p3) (Nat.zero_le _) ⟨rfl,rfl,rfl,trivial⟩ (.refl _)<|?_
 rintro⟨j,r⟩ hj
 dsimp only at hj⊢
 have hwl:=jl b j
 by_cases hlt:j<16
 ·have hsu:bB b (j+1)=bB b j++[fw b j 4]:=by rw[bB,if_pos hlt]
  have hap:=Ee (bB b j) j (fw b j 4) (by omega)
  rw[<-hsu,<-aaQ b hb] at hap
  have b0:=hb.at (4*j)
  have b1:=hb.at (4*j+1)
  have b2:=hb.at (4*j+2)
  have b3:=hb.at (4*j+3)
  have g0:=o9 b (4*j) (by omega)
  have g1:=o9 b (4*j+1) (by omega)
  have g2:=o9 b (4*j+2) (by omega)
  have g3:=o9 b (4*j+3) (by omega)
  have hrl:=qU (bB b j)
  refine S.sq<|Q.rg<|Q.mv U<|Q.bi U U U<|Q.nt<|S.cT U (decide_eq_true (by omega))<|UW.skip<|UQ.then<|S.sq<|UW.block<|?_
  refine' UW.bG (by kernel_rfl) [0,0,0,4,14,30,62,126,0,0,512,1536,3840,7936,16128,32512,65534,0,0,262144,786432,1966080,4063232,8257536,16646144,33554430,0,0,134217728,402653184,1006632960,2080374784,4227858432,8589934590,17179869182,34359738367,68719476735] [some 14,some 15,some 16,some 17,some 18,some 19,some 20,some 21,some 22,some 23,some 24,some 25,some 26,some 27,some 28,some 29,some 30,some 31,some 32,some 33,some 34,some 35,some 36,some 37,some 38,some 39,some 40,some 41,some 42,some 43,some 44,some 45,some 46,some 47,some 48,none,none] [some (14,_),some (15,_),some (16,_),some (17,_),some (18,_),some (19,_),some (20,_),some (21,_),some (22,_),some (23,_),some (24,_),some (25,_),some (26,_),some (27,_),some (28,_),some (29,_),some (30,_),some (31,_),some (32,_),some (33,_),some (34,_),some (35,_),some (36,_),some (37,_),some (38,_),some (39,_),some (40,_),some (41,_),some (42,_),some (43,_),some (44,_),some (45,_),some (46,_),some (47,_),some (48,_),none,none] [35,36] [5,13,22,31] U (by decide) (by decide) (M.free (by decide) U U ?sJ (M.free (by decide) U U ?sK (M.free (by decide) U U ?sM (M.free (by decide) U U ?sN (M.free (by decide) U U ?sO (M.held (by decide) U U ?xS (M.free (by decide) U U ?xU (M.free (by decide) U U ?xV (M.free (by decide) U U ?xW (M.free (by decide) U U ?xX (M.free (by decide) U U ?sP (M.free (by decide) U U ?IZ (M.free (by decide) U U ?I1 (M.held (by decide) U U ?I4 (M.free (by decide) U U ?I5 (M.free (by decide) U U ?I6 (M.free (by decide) U U ?I7 (M.free (by decide) U U ?I8 (M.free (by decide) U U ?I9 (M.free (by decide) U U ?Ja (M.free (by decide) U U ?Jb (M.free (by decide) U U ?Jc (M.held (by decide) U U ?Jd (M.free (by decide) U U ?Ws (M.free (by decide) U U ?Wu (M.free (by decide) U U ?Wv (M.free (by decide) U U ?Ww (M.free (by decide) U U ?Wx (M.free (by decide) U U ?Wy (M.free (by decide) U U ?Wz (M.free (by decide) U U ?WA (M.held (by decide) U U ?WB (M.free (by decide) U U ?WC (M.free (by decide) U U ?WE (M.free (by decide) U U ?WG (M.skip (M.skip M.nil))))))))))))))))))))))))))))))))))))) ?Je
  case sJ=>(intro _;exact Z.mv rfl)
  case sK=>(intro _;exact Z.mv rfl)
  case sM=>(intro _;exact Z.mv rfl)
  case sN=>(intro _;exact Z.mul (r:=((4*j:Nat):Int)) rfl rfl (IntWalk.i64_in _ (by omega)))
  case sO=>(intro _;exact Z.ia bR rfl rfl (by omega) g0 (by rfl))
  case xS=>exact Z.fE nM rfl
  case xU=>(intro _;exact Z.cv Tryz.underlying108 rfl (IntWalk.u32_in _ (by omega)) (by rw[Tryz.underlying5];rfl))
  case xV=>(intro _;exact Z.Re rfl rfl (by omega))
  case xW=>(intro _;exact Z.mv rfl)
  case xX=>(intro _;exact Z.mv rfl)
  case sP=>(intro _;exact Z.mul (r:=((4*j:Nat):Int)) rfl rfl (IntWalk.i64_in _ (by omega)))
  case IZ=>(intro _;exact Z.add (r:=((4*j+1:Nat):Int)) rfl rfl (IntWalk.i64_in _ (by omega)))
  case I1=>(intro _;exact Z.ia bR rfl rfl (by omega) g1 (by rfl))
  case I4=>exact Z.fE nM rfl
  case I5=>(intro _;exact Z.cv Tryz.underlying108 rfl (IntWalk.u32_in _ (by omega)) (by rw[Tryz.underlying5];rfl))
  case I6=>(intro _;exact Z.Re rfl rfl (by omega))
  case I7=>(intro _;exact Z.wor rfl rfl)
  case I8=>(intro _;exact Z.mv rfl)
  case I9=>(intro _;exact Z.mv rfl)
  case Ja=>(intro _;exact Z.mul (r:=((4*j:Nat):Int)) rfl rfl (IntWalk.i64_in _ (by omega)))
  case Jb=>(intro _;exact Z.add (r:=((4*j+2:Nat):Int)) rfl rfl (IntWalk.i64_in _ (by omega)))
  case Jc=>(intro _;exact Z.ia bR rfl rfl (by omega) g2 (by rfl))
  case Jd=>exact Z.fE nM rfl
  case Ws=>(intro _;exact Z.cv Tryz.underlying108 rfl (IntWalk.u32_in _ (by omega)) (by rw[Tryz.underlying5];rfl))
  case Wu=>(intro _;exact Z.Re rfl rfl (by omega))
  case Wv=>(intro _;exact Z.wor rfl rfl)
  case Ww=>(intro _;exact Z.mv rfl)
  case Wx=>(intro _;exact Z.mv rfl)
  case Wy=>(intro _;exact Z.mul (r:=((4*j:Nat):Int)) rfl rfl (IntWalk.i64_in _ (by omega)))
  case Wz=>(intro _;exact Z.add (r:=((4*j+3:Nat):Int)) rfl rfl (IntWalk.i64_in _ (by omega)))
  case WA=>(intro _;exact Z.ia bR rfl rfl (by omega) g3 (by rfl))
  case WB=>exact Z.fE nM rfl
  case WC=>(intro _;exact Z.cv Tryz.underlying108 rfl (IntWalk.u32_in _ (by omega)) (by rw[Tryz.underlying5];rfl))
  case WE=>(intro _;exact Z.wor rfl rfl)
  case WG=>(intro _;exact Z.bl uK rfl rfl (bA rfl))
  refine CH.cons U U (by decide)<|D.ap 0 uK U U (by omega) U (.sl (j3 U)) (by first|omega|(simp;omega)) hap λp49=>?_
  refine CH.cons U U (by decide)<|D.qu (Z.as U)<|CH.nil<|?_
  simp only[app,bV]
  refine UQ.aB<|UQ.then<|S.rg<|Q.mv U<|S.qu (Z.add (r:=((j+1:Nat):Int)) U U (IntWalk.i64_in _ (by omega)))<|Q.as U<|US.nil<|?_
  refine S.back (j+1,p49) ⟨rfl,rfl,rfl,trivial⟩ (.refl _) (by omega) (by omega)
 ·have hj16:j=16:=by omega
  subst hj16
  refine S.sq<|Q.rg<|Q.mv U<|Q.bi U U U<|Q.nt<|S.cF U (decide_eq_false (by omega))<|UW.exit<|UQ.pass<|UQ.pass<|UQ.here<|UQ.then<|S.sq<|Q.rg<|Q.as U<|Q.nt<|UW.block<|S.loop (λj:Nat×Nat=>[(5,.v (.int .i64 (j.1:Int))),(3,.own j.2 0 j.1 1)]) (λj=>[(j.2,.row 108 1 (encR (bB b j.1)))]) (λj=>16<=j.1/\j.1<=64) (λj=>64-j.1) (16,r) ⟨Nat.le_refl _,by show 16<=64;decide⟩ ⟨rfl,rfl,trivial⟩ (.refl _)<|?_
  rintro⟨j,r⟩ hj
  dsimp only at hj⊢
  have hwl:=jl b j
  have hrl:=qU (bB b j)
  have hrs:=Cs (bB b j)
  by_cases hlt:j<64
  ·have hsu:bB b (j+1)=bB b j++[zo (bB b j) j]:=by rw[bB,if_neg (by omega)]
   have hap:=Ee (bB b j) j (zo (bB b j) j) (by omega)
   rw[<-hsu] at hap
   have g2:=lG (bB b j) (j-2) (by omega)
   have g7:=lG (bB b j) (j-7) (by omega)
   have g15:=lG (bB b j) (j-15) (by omega)
   have g16:=lG (bB b j) (j-16) (by omega)
   refine S.sq<|Q.rg<|Q.mv U<|Q.bi U U U<|Q.nt<|S.cT U (decide_eq_true (by omega))<|UW.skip<|UQ.then<|S.sq<|UW.block<|Q.rg<|Q.mv U<|Q.mv U<|S.qu (Z.sub U U (IntWalk.i64_in _ (by omega)))<|S.qu (Z.io iB U U (by omega) (by omega))<|S.qu (Z.Ib 0 iL U U (m:=j-15) (by omega) hrs g15)<|Q.as U<|Q.nt<|Q.rg<|Q.mv U<|Q.mv U<|S.qu (Z.sub U U (IntWalk.i64_in _ (by omega)))<|S.qu (Z.io iB U U (by omega) (by omega))<|S.qu (Z.Ib 0 iL U U (m:=j-2) (by omega) hrs g2)<|Q.as U<|Q.nt<|Q.rg<|Q.mv U<|S.qu (Z.call U U (λ_=>jw _ _ (by omega) (by omega) _))<|Q.mv U<|S.qu (Z.call U U (λ_=>jw _ _ (by omega) (by omega) _))<|S.qu (Z.uw U U)<|Q.mv U<|S.qu (Z.DU U U (by omega))<|S.qu (Z.uw U U)<|Q.as U<|Q.nt<|Q.rg<|Q.mv U<|S.qu (Z.call U U (λ_=>jw _ _ (by omega) (by omega) _))<|Q.mv U<|S.qu (Z.call U U (λ_=>jw _ _ (by omega) (by omega) _))<|S.qu (Z.uw U U)<|Q.mv U<|S.qu (Z.DU U U (by omega))<|S.qu (Z.uw U U)<|Q.as U<|Q.nt<|?_
   refine' UW.bG (by kernel_rfl) [0,0,0,0,8,28,60,126,0,510,0,0,2048,7168,15360,32766,65534,131071,262143] [some 80,some 81,some 82,some 83,some 84,some 85,some 86,some 87,some 88,some 89,some 90,some 91,some 92,some 93,some 94,some 95,some 96,none,none] [some (80,_),some (81,_),some (82,_),some (83,_),some (84,_),some (85,_),some (86,_),some (87,_),some (88,_),some (89,_),some (90,_),some (91,_),some (92,_),some (93,_),some (94,_),some (95,_),some (96,_),none,none] [17,18] [6,14] U (by decide) (by decide) (M.free (by decide) U U ?Eg (M.free (by decide) U U ?Eh (M.free (by decide) U U ?Ei (M.free (by decide) U U ?Ej (M.free (by decide) U U ?El (M.free (by decide) U U ?Em (M.held (by decide) U U ?En (M.free (by decide) U U ?Eo (M.free (by decide) U U ?Ep (M.free (by decide) U U ?Om (M.free (by decide) U U ?Jv (M.free (by decide) U U ?WH (M.free (by decide) U U ?WI (M.free (by decide) U U ?WJ (M.held (by decide) U U ?WK (M.free (by decide) U U ?WL (M.free (by decide) U U ?WM (M.skip (M.skip M.nil))))))))))))))))))) ?T9
   case Eg=>(intro _;exact Z.mv rfl)
   case Eh=>(intro _;exact Z.mv rfl)
   case Ei=>(intro _;exact Z.mv rfl)
   case Ej=>(intro _;exact Z.mv rfl)
   case El=>(intro _;exact Z.sub rfl rfl (IntWalk.i64_in _ (by omega)))
   case Em=>(intro _;exact Z.io iB rfl rfl (by omega) (by omega))
   case En=>exact Z.Ib 0 iL rfl rfl (m:=j-7) (by omega) hrs g7
   case Eo=>(intro _;exact Z.pU rfl rfl)
   case Ep=>(intro _;exact Z.mv rfl)
   case Om=>(intro _;exact Z.pU rfl rfl)
   case Jv=>(intro _;exact Z.mv rfl)
   case WH=>(intro _;exact Z.mv rfl)
   case WI=>(intro _;exact Z.sub rfl rfl (IntWalk.i64_in _ (by omega)))
   case WJ=>(intro _;exact Z.io iB rfl rfl (by omega) (by omega))
   case WK=>exact Z.Ib 0 iL rfl rfl (m:=j-16) (by omega) hrs g16
   case WL=>(intro _;exact Z.pU rfl rfl)
   case WM=>(intro _;exact Z.bl uK rfl rfl (bA rfl))
   refine CH.cons U U (by decide)<|D.ap 0 uK U U (by omega) U (.sl (j3 U)) (by first|omega|(simp;omega)) hap λp97=>?_
   refine CH.cons U U (by decide)<|D.qu (Z.as U)<|CH.nil<|?_
   simp only[app,bV]
   refine UQ.aB<|UQ.then<|S.rg<|Q.mv U<|S.qu (Z.add (r:=((j+1:Nat):Int)) U U (IntWalk.i64_in _ (by omega)))<|Q.as U<|US.nil<|?_
   refine S.back (j+1,p97) ⟨rfl,rfl,trivial⟩ (.refl _) (by omega) (by omega)
  ·have Oj:j=64:=by omega
   subst Oj
   refine S.sq<|Q.rg<|Q.mv U<|Q.bi U U U<|Q.nt<|S.cF U (decide_eq_false (by omega))<|UW.exit<|UQ.pass<|UQ.pass<|UQ.here<|UQ.then<|Q.rg<|Q.mv U<|Q.as U<|US.gG 2 0 (rs:=encR (bB b 64)) U U (by rw[hrl,hwl];decide) (by rw[List.drop_zero,List.take_of_length_le (by omega)])<|?_
   refine Q.nt<|UW.ret<|S.bK (λ_=>ak U U)<|?_
   rfl
end Go.Proofs.YtonpfomjoiaacaaGreatDoor
end
