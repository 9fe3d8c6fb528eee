/- A part of the proof. -/
import Derived.Test.YtonpfomjoiaacaaGreatDoorMz25
set_option maxRecDepth 100000
set_option maxHeartbeats 4000000
set_option linter.unusedSectionVars false
set_option linter.unusedVariables false
set_option linter.unusedSimpArgs false
section
namespace Go.Proofs.YtonpfomjoiaacaaGreatDoor
open Go Go.fT Go.RowKit
def ym:List ByteArray:=[⟨#[97]⟩,⟨#[98]⟩,⟨#[109,101,109,98,101,114,115,104,105,112]⟩,⟨#[117,115,101,114,115]⟩,⟨#[195,169]⟩,⟨#[101,118,101,110,116,115]⟩,⟨#[120]⟩,⟨#[116,121,112,101]⟩]
theorem Yb:∀s∈ym,s.size<=4000000:=by decide
def Cg(b1:Int)(q:Nat):Nat:=((b1.tdiv 4+3*(q:Int)).tmod 8).toNat
def nD(b1:Int)(kids:List V):Nat->V
 |0=> .mk 5 0 ⟨#[]⟩ [] []
 |q+1=>bH (nD b1 kids q) (ym.getD (Cg b1 q) ⟨#[]⟩) (kids.getD q zeroV)
def lI(b1:Int)(l:List V):Nat:=min (b1.tmod 4).toNat l.length
def cZ(b1:Int)(l:List V):List V:=l.drop (l.length-lI b1 l)
def BL(b0 b1:Int)(t:ByteArray)(l:List V):Nat×V:=
 if b0.tmod 12=0 then(l.length,.mk 1 (b1.tmod 2) ⟨#[]⟩ [] [])
 else if b0.tmod 12=1\/b0.tmod 12=2\/b0.tmod 12=3 then(l.length,mU (b1-100))
 else if b0.tmod 12=4 then(l.length,mU (9007199254740991-b1.tmod 2))
 else if b0.tmod 12=5\/b0.tmod 12=6 then(l.length,cK (if 0<=PX t then⟨#[122]⟩ else t))
 else if b0.tmod 12=7 then(l.length-lI b1 l,.mk 4 0 ⟨#[]⟩ [] (cZ b1 l))
 else if b0.tmod 12=8\/b0.tmod 12=9\/b0.tmod 12=10 then(l.length-lI b1 l,nD b1 (cZ b1 l) (cZ b1 l).length)
 else(l.length,zeroV)
def LX(c:List Int)(j:Nat)(l:List V):List V:=
 l.take (BL (c.getD j 0) (c.getD (j+1) 0) (textOf ((c.take (min c.length (j+3))).drop j)) l).1++[(BL (c.getD j 0) (c.getD (j+1) 0) (textOf ((c.take (min c.length (j+3))).drop j)) l).2]
def nE(c:List Int):Nat->List V
 |0=>[]
 |n+1=>LX c (2*n) (nE c n)
def valOf(c:List Int):V:=.mk 4 0 ⟨#[]⟩ [] (nE c (min (c.length/2) 30))
theorem qX{α:Type}{l:List α}{i:Nat}{a b:α}(h:b∈dO l i a):b∈l\/b=a:=by
 unfold dO at h
 rcases List.mem_append.1 h with h|h
 ·exact .inl (List.mem_of_mem_take h)
 ·rcases List.mem_cons.1 h with h|h
  ·exact .inr h
  ·exact .inl (List.mem_of_mem_drop h)
theorem OL{x:V}{key:ByteArray}{y:V}{s:ByteArray}(h:s∈(bH x key y).ks):s∈(eP x).ks\/s=key:=by
 unfold bH at h
 split at h
 ·rw[yC] at h;exact .inl (List.mem_of_mem_take h)
 ·rw[yC] at h
  rcases qX h with h|h
  ·exact .inl (List.mem_of_mem_take h)
  ·exact .inr h
theorem sV{x:V}{key:ByteArray}{y v:V}(h:v∈(bH x key y).vs):v∈(eP x).vs\/v=y:=by
 unfold bH at h
 split at h
 ·rw[yD] at h
  rcases List.mem_or_eq_of_mem_set h with h|h
  ·exact .inl (List.mem_of_mem_take h)
  ·exact .inr h
 ·rw[yD] at h
  rcases qX h with h|h
  ·exact .inl (List.mem_of_mem_take h)
  ·exact .inr h
theorem sW(x:V)(key:ByteArray)(y:V):(bH x key y).ks.length<=(eP x).ks.length+1/\(bH x key y).vs.length<=(eP x).vs.length+1/\(bH x key y).k=5:=by
 have hk:(eP x).k=5:=by unfold eP;split<;>first|assumption|rfl
 have hc:(cutV (eP x)).ks.length<=(eP x).ks.length/\(cutV (eP x)).vs.length<=(eP x).vs.length:=by simp only[cutV,yC,yD,List.length_take];omega
 have h1:=kS (cutV (eP x)).ks key
 unfold bH
 split
 ·simp only[yC,yD,vk,List.length_set];omega
 ·simp only[yC,yD,vk]
  rw[bW _ _ _ h1,bW _ _ _ (by rw[<-uP];exact h1)];omega
theorem Fits.of{x:V}(h1:x.ks.length<=1000000)(h2:x.vs.length<=1000000)(h:∀y∈x.vs,Fits y):Fits x:=by
 obtain⟨k,n,t,ks,vs⟩:=x
 exact .mk k n t ks vs h1 h2 h
theorem wh(b1:Int)(kids:List V)(hk:∀x∈kids,Fits x):∀q,(nD b1 kids q).k=5/\(nD b1 kids q).ks.length<=q/\(nD b1 kids q).vs.length<=q/\(∀s∈(nD b1 kids q).ks,s.size<=4000000)/\(∀v∈(nD b1 kids q).vs,Fits v)
 |0=>⟨rfl,Nat.le_refl _,Nat.le_refl _,(by intro s h;cases h),(by intro v h;cases h)⟩
 |q+1=>by
  obtain⟨h0,h1,h2,h3,h4⟩:=wh b1 kids hk q
  have e:eP (nD b1 kids q)=nD b1 kids q:=by unfold eP;rw[if_pos h0]
  obtain⟨w1,w2,w3⟩:=sW (nD b1 kids q) (ym.getD (Cg b1 q) ⟨#[]⟩) (kids.getD q zeroV)
  rw[e] at w1 w2
  refine⟨w3,by show(bH _ _ _).ks.length<=_;omega,by show(bH _ _ _).vs.length<=_;omega,λs hs=>?_,λv hv=>?_⟩
  ·rcases OL hs with h|h
   ·rw[e] at h;exact h3 s h
   ·subst h
    by_cases hi:Cg b1 q<ym.length
    ·exact Yb _ (eY hi)
    ·simp only[List.getD,List.getElem?_eq_none (Nat.le_of_not_lt hi)];decide
  ·rcases sV hv with h|h
   ·rw[e] at h;exact h4 v h
   ·subst h
    by_cases hi:q<kids.length
    ·exact hk _ (eY hi)
    ·simp only[List.getD,List.getElem?_eq_none (Nat.le_of_not_lt hi)];exact .mk _ _ _ _ _ (by decide) (by decide) (by simp)
theorem wm(b1:Int)(kids:List V)(hk:∀x∈kids,Fits x)(q:Nat)(hq:q<=1000000):Fits (nD b1 kids q):=by
 obtain⟨_,h1,h2,_,h4⟩:=wh b1 kids hk q
 exact Fits.of (by omega) (by omega) h4
theorem mq:Fits zeroV:=.mk _ _ _ _ _ (by decide) (by decide) (by simp)
theorem qY(k n:Int)(t:ByteArray):Fits (.mk k n t [] []):=.mk _ _ _ _ _ (by simp) (by simp) (by simp)
theorem LY(b0 b1:Int)(t:ByteArray)(l:List V)(hl:l.length<=1000)(h:∀x∈l,Fits x):Fits (BL b0 b1 t l).2/\(BL b0 b1 t l).1<=l.length:=by
 have hk:∀x∈cZ b1 l,Fits x:=λx hx=>h x (List.mem_of_mem_drop hx)
 have hkl:(cZ b1 l).length<=l.length:=by unfold cZ;rw[List.length_drop];omega
 unfold BL
 repeat' split
 ·exact⟨qY _ _ _,Nat.le_refl _⟩
 ·exact⟨qY _ _ _,Nat.le_refl _⟩
 ·exact⟨qY _ _ _,Nat.le_refl _⟩
 ·exact⟨qY _ _ _,Nat.le_refl _⟩
 ·exact⟨qY _ _ _,Nat.le_refl _⟩
 ·exact⟨.mk _ _ _ _ _ (by simp) (by omega) hk,Nat.sub_le _ _⟩
 ·exact⟨wm _ _ hk _ (by omega),Nat.sub_le _ _⟩
 ·exact⟨mq,Nat.le_refl _⟩
theorem Cw(c:List Int):∀n,n<=100->(nE c n).length<=n/\∀x∈nE c n,Fits x
 |0,_=>⟨Nat.le_refl _,(by intro x h;cases h)⟩
 |n+1,hn=>by
  obtain⟨h1,h2⟩:=Cw c n (by omega)
  have h3:=LY (c.getD (2*n) 0) (c.getD (2*n+1) 0) (textOf ((c.take (min c.length (2*n+3))).drop (2*n))) (nE c n) (by omega) h2
  refine⟨?_,λx hx=>?_⟩
  ·show(LX c (2*n) (nE c n)).length<=_
   unfold LX
   rw[List.length_append,List.length_take];simp only[List.length_singleton];omega
  ·rcases List.mem_append.1 hx with h|h
   ·exact h2 x (List.mem_of_mem_take h)
   ·rw[List.mem_singleton.1 h];exact h3.1
end Go.Proofs.YtonpfomjoiaacaaGreatDoor
end
section
namespace Go.fT
open Go Go.RowKit
theorem S.cut2{P:Program}{n:Nat}{Q:qH->Sl->Hp->Prop}{H0:Hp}{l:List (Nat×AV)}{I:List (Nat×Ob)}{c c2:Code}{α β:Type}(a0:α)(b0:β)(L:α->β->List (Nat×AV))(O:α->β->List (Nat×Ob))(hx:UW P n (lS (Tk H0 (λs:α×β=>L s.1 s.2) (λs=>O s.1 s.2) (λs=>s.1=a0/\s.2=b0)) Q) H0 c l I)(hy:UW P n Q H0 c2 (L a0 b0) (O a0 b0)):UW P n Q H0 (.seq c c2) l I:=
 S.Vz _ _ _ hx λa h=>by obtain⟨a1,a2⟩:=a;obtain⟨h1,h2⟩:=h;cases h1;cases h2;exact hy
end Go.fT
end
section
namespace Go.Proofs.YtonpfomjoiaacaaGreatDoor
open Go Go.fT Go.RowKit
theorem OM{b k:Int}(h:0<=b):0<=b.tmod k:=Int.tmod_nonneg _ h
theorem OO{b k:Int}(hk:0<k):b.tmod k<k:=Int.tmod_lt_of_pos _ hk
theorem JQ{c:List Int}(hc:zh c){k:Nat}(h:k<c.length):(c.map uW)[k]? =some (uW (c.getD k 0))/\0<=c.getD k 0/\c.getD k 0<256:=by
 rw[getD_at h];exact⟨P7 c k h,hc _ (List.getElem_mem h)⟩
theorem zh.cut{c:List Int}(hc:zh c)(m m':Nat):zh ((c.take m').drop m):=λb hb=>hc b (List.mem_of_mem_take (List.mem_of_mem_drop hb))
theorem Qd(c:List Int)(m m':Nat):AV.sl ((List.take m' (c.map uW)).drop m)=BD ((c.take m').drop m):=by
 unfold BD;rw[List.map_drop,List.map_take]
theorem Uo(l:List V)(k:Nat):((List.drop (0+k) (aW l)).take (l.length-k))=aW (l.drop k):=by
 rw[Nat.zero_add,List.take_of_length_le (by rw[List.length_drop,aP];exact Nat.le_refl _),eB,eB,List.map_drop]
theorem zA(b1:Int)(q:Nat)(h:0<=b1):((Cg b1 q:Nat):Int)=(b1.tdiv 4+3*(q:Int)).tmod 8:=by
 have:=Int.tdiv_nonneg h (by decide:(0:Int)<=4)
 unfold Cg;exact Int.toNat_of_nonneg (OM (by omega))
theorem EK(b1:Int)(q:Nat)(h:0<=b1):(ym.map encS)[Cg b1 q]? =some (encS (ym.getD (Cg b1 q) ⟨#[]⟩)):=by
 have e:=zA b1 q h
 have h2:=OO (b:=b1.tdiv 4+3*(q:Int)) (k:=8) (by decide)
 have h3:Cg b1 q<ym.length:=by show _<8;omega
 rw[getD_at h3];exact eD _ _ h3
theorem Cx(l:List V)(q:Nat)(h:q<l.length):(aW l)[q]? =some (aD (l.getD q zeroV)):=by
 rw[getD_at h];exact fK l q h
theorem Uq(c:List Int)(hc:zh c)(H:Hp):au Tryz.prog 117 [BD c] H (bz H (.agg (aD (valOf c)))):=by
 have wI:(c.map uW).length=c.length:=List.length_map ..
 refine aF (n:=150) (H0:=H) (I:=[]) Tryz.func117 (by kernel_rfl) U (by rw[Tryz.ntmps117];rfl) .nil<|?_
 refine Q.rg<|S.dd<|D.al z26 U U U λp2=>Q.nt<|Q.rg<|Q.as U<|US.kG 3 26 5 (by decide) U λid=>Q.nt<|Q.rg<|S.qu (Z.bl dV U U (bA U))<|Q.as U<|Q.nt<|S.sq<|Q.rg<|Q.as U<|Q.nt<|UW.block<|S.loop (λs:Nat×Nat=>[(5,.v (.int .i64 ((2*s.1:Nat):Int))),(3,.own s.2 0 (nE c s.1).length 5),(4,strs ym),(0,BD c),(2,.ptr p2 0)]) (λs=>[(s.2,.row 26 5 (aW (nE c s.1))),(p2,.box 26 (aD zeroV))]) (λs=>s.1<=c.length/2/\s.1<=30) (λs=>30-s.1) (0,id) ⟨Nat.zero_le _,Nat.zero_le _⟩ ⟨rfl,rfl,rfl,rfl,rfl,trivial⟩ (.refl _)<|?_
 rintro⟨n,id⟩ ⟨hn,hn30⟩
 simp only at hn hn30
 simp only
 have hvl:=aP (nE c n)
 by_cases hlt:2*n+1<c.length
 ·by_cases hl30:n<30
  ·obtain⟨hg0,hb00,hb01⟩:=JQ hc (by omega:2*n<c.length)
   obtain⟨hg1,JR,hb11⟩:=JQ hc hlt
   obtain⟨hL1,hL2⟩:=Cw c n (by omega)
   have hstep:nE c (n+1)=LX c (2*n) (nE c n):=rfl
   unfold LX at hstep
   have hm:=(LY (c.getD (2*n) 0) (c.getD (2*n+1) 0) (textOf ((c.take (min c.length (2*n+3))).drop (2*n))) (nE c n) (by omega) hL2).2
   generalize c.getD (2*n) 0=b0 at*
   generalize c.getD (2*n+1) 0=b1 at*
   generalize nE c n=l at*
   have hr0:=OM (k:=4) JR
   have hr1:=OO (b:=b1) (k:=4) (by decide)
   have hr2:=OM (k:=2) JR
   have hr3:=OO (b:=b1) (k:=2) (by decide)
   have hd4:b1.tdiv 4=b1/4:=Int.tdiv_eq_ediv_of_nonneg JR
   have hkl:(cZ b1 l).length<=l.length:=by unfold cZ;rw[List.length_drop];omega
   have Vm:∀x∈cZ b1 l,Fits x:=λx hx=>hL2 x (List.mem_of_mem_drop hx)
   have htk:lI b1 l<=l.length:=Nat.min_le_right _ _
   generalize hsw:BL b0 b1 (textOf ((c.take (min c.length (2*n+3))).drop (2*n))) l=sw at*
   obtain⟨m,x⟩:=sw
   simp only at hstep hm
   have hsl:(nE c (n+1)).length=m+1:=by rw[hstep,List.length_append,List.length_take,List.length_singleton];omega
   have hse:(aW l).take m++[aD x]=aW (nE c (n+1)):=by rw[hstep,eB,eB];simp[List.map_take]
   focus
    refine S.sq<|Q.rg<|Q.mv U<|S.qu (Z.add U U (IntWalk.i64_in _ (by omega)))<|Q.mv U<|S.qu (Z.fG bR U)<|Q.bi U U U<|Q.mv U<|?_
    refine S.tD 16 (λhc16=>?_) (λhc16=>?_)
    rotate_left
    omega
    refine Q.on (Z.mv U)<|Q.on (Z.bi U U U)<|Q.pk U U<|Q.nt<|S.cT U (decide_eq_true (by omega))<|UW.skip<|UQ.then<|S.sq<|UW.block<|Q.rg<|Q.mv U<|Q.mv U<|S.qu (Z.add (r:=((2*n+1:Nat):Int)) U U (IntWalk.i64_in _ (by omega)))<|S.qu (Z.ia bR U U (by omega) (by assumption) (by rfl))<|?_
    refine S.qu (Z.fE nM U)<|Q.bi U U U<|S.qu (Z.cv Tryz.underlying3 U (IntWalk.i64_in _ (by omega)) (by rw[Tryz.underlying5];rfl))<|?_
    refine Q.mv U<|S.qu (Z.M8 bM U)<|?_
    refine S.qu (Z.eq (u':=.v (.int .i64 ((lI b1 l:Nat):Int))) (Z.min U U) (by unfold lI;congr 2;split<;>omega)) ?_
    refine Q.as U<|Q.nt<|Q.rg<|Q.as U<|Q.nt<|Q.rg<|Q.mv U<|Q.mv U<|Q.mv U<|S.qu (Z.M8 bM U)<|Q.mv U<|S.qu (Z.eq (u':=.v (.int .i64 ((l.length-lI b1 l:Nat):Int))) (Z.sub U U (IntWalk.i64_in _ (by omega))) (by congr 2;omega))<|?_
    refine S.qu (Z.Cn bM U (.lo U) (by omega) (by omega))<|S.dd<|D.apn iP U U (.own (k:=0) (rs:=aW (cZ b1 l)) U (by omega) (Uo l (l.length-lI b1 l))) (by have e:=aP (cZ b1 l);omega) λp39=>?_
    refine US.gG 39 0 (rs:=aW (cZ b1 l)) U U (Nat.le_of_eq (Nat.zero_add _)) (by rw[List.drop_zero,List.take_length])<|?_
    refine Q.as U<|Q.nt<|Q.rg<|S.qu (Z.bd [] iE U U U U U U)<|S.dd<|D.al z26 U U U λp8=>S.s<|D.st 0 av U U U U U U U U λ_=>Q.nt<|?_
    refine S.cut2 m (aD x) (λ(m:Nat) (x:List AV)=>[(3,.own id 0 m 5),(8,.ptr p8 0),(5,.v (.int .i64 ((2*n:Nat):Int))),(4,strs ym),(0,BD c),(2,.ptr p2 0)]) (λm x=>[(p8,.box 26 x),(id,.row 26 5 (aW l)),(p2,.box 26 (aD zeroV))]) ?_ ?_
    refine Q.rg<|Q.mv U<|Q.mv U<|S.qu (Z.ia bR U U (by omega) (by assumption) (by rfl))<|?_
    refine S.qu (Z.fE nM U)<|Q.bi U U U<|Q.nt<|UW.block<|Q.rg<|Q.bi U U U<|Q.as U<|Q.nt<|?_
    refine S.cE U (λhc46=>?_) (λhc46=>?_)
    refine S.rg<|Q.mv U<|Q.mv U<|S.qu (Z.add (r:=((2*n+1:Nat):Int)) U U (IntWalk.i64_in _ (by omega)))<|S.qu (Z.ia bR U U (by omega) (by assumption) (by rfl))<|?_
    refine S.qu (Z.fE nM U)<|Q.bi U U U<|S.qu (Z.cv Tryz.underlying2 U (IntWalk.i64_in _ (by omega)) (by rw[Tryz.underlying5];rfl))<|?_
    refine S.qu (Z.bd [0,1] iE U U U U U U)<|S.s<|D.st 0 av U U U U U U U U λ_=>US.nil<|UQ.aB<|?_
    refine S.qQ (_,_) ⟨rfl,rfl,rfl,rfl,rfl,rfl,trivial⟩ (.refl _) (by unfold BL at hsw;(repeat' split at hsw);all_goals first|omega|(cases hsw;exact⟨by rfl,by rfl⟩))
    refine S.sq<|Q.rg<|Q.bi U U U<|Q.as U<|Q.nt<|?_
    refine S.cE U (λOP=>?_) (λOP=>?_)
    refine UW.skip<|UQ.then<|S.cT U (kQ (by omega))<|S.rg<|Q.mv U<|Q.mv U<|S.qu (Z.add (r:=((2*n+1:Nat):Int)) U U (IntWalk.i64_in _ (by omega)))<|S.qu (Z.ia bR U U (by omega) (by assumption) (by rfl))<|?_
    refine S.qu (Z.fE nM U)<|S.qu (Z.cv Tryz.underlying2 U (IntWalk.i64_in _ (by omega)) (by rw[Tryz.underlying5];rfl))<|?_
    refine S.qu (Z.sub U U (IntWalk.i64_in _ (by omega)))<|S.qu (Z.bd [0,1] iE U U U U U U)<|S.s<|D.st 0 av U U U U U U U U λ_=>US.nil<|UQ.aB<|?_
    refine S.qQ (_,_) ⟨rfl,rfl,rfl,rfl,rfl,rfl,trivial⟩ (.refl _) (by unfold BL at hsw;(repeat' split at hsw);all_goals first|omega|(cases hsw;exact⟨by rfl,by rfl⟩))
    refine Q.rg<|Q.bi U U U<|Q.as U<|Q.nt<|?_
    refine S.cE U (λOP=>?_) (λOP=>?_)
    refine UW.skip<|UQ.then<|S.cT U (kQ (by omega))<|S.rg<|Q.mv U<|Q.mv U<|S.qu (Z.add (r:=((2*n+1:Nat):Int)) U U (IntWalk.i64_in _ (by omega)))<|S.qu (Z.ia bR U U (by omega) (by assumption) (by rfl))<|?_
    refine S.qu (Z.fE nM U)<|S.qu (Z.cv Tryz.underlying2 U (IntWalk.i64_in _ (by omega)) (by rw[Tryz.underlying5];rfl))<|?_
    refine S.qu (Z.sub U U (IntWalk.i64_in _ (by omega)))<|S.qu (Z.bd [0,1] iE U U U U U U)<|S.s<|D.st 0 av U U U U U U U U λ_=>US.nil<|UQ.aB<|?_
    refine S.qQ (_,_) ⟨rfl,rfl,rfl,rfl,rfl,rfl,trivial⟩ (.refl _) (by unfold BL at hsw;(repeat' split at hsw);all_goals first|omega|(cases hsw;exact⟨by rfl,by rfl⟩))
    refine S.rg<|Q.bi U U U<|Q.as U<|Q.nt<|?_
    refine S.cE U (λOP=>?_) (λOP=>?_)
    refine S.rg<|Q.mv U<|Q.mv U<|S.qu (Z.add (r:=((2*n+1:Nat):Int)) U U (IntWalk.i64_in _ (by omega)))<|S.qu (Z.ia bR U U (by omega) (by assumption) (by rfl))<|?_
    refine S.qu (Z.fE nM U)<|S.qu (Z.cv Tryz.underlying2 U (IntWalk.i64_in _ (by omega)) (by rw[Tryz.underlying5];rfl))<|?_
    refine S.qu (Z.sub U U (IntWalk.i64_in _ (by omega)))<|S.qu (Z.bd [0,1] iE U U U U U U)<|S.s<|D.st 0 av U U U U U U U U λ_=>US.nil<|UQ.aB<|?_
    refine S.qQ (_,_) ⟨rfl,rfl,rfl,rfl,rfl,rfl,trivial⟩ (.refl _) (by unfold BL at hsw;(repeat' split at hsw);all_goals first|omega|(cases hsw;exact⟨by rfl,by rfl⟩))
    refine Q.rg<|Q.bi U U U<|Q.as U<|Q.nt<|?_
    refine S.cE U (λabm=>?_) (λabm=>?_)
    refine S.rg<|Q.mv U<|Q.mv U<|S.qu (Z.add (r:=((2*n+1:Nat):Int)) U U (IntWalk.i64_in _ (by omega)))<|S.qu (Z.ia bR U U (by omega) (by assumption) (by rfl))<|?_
    refine S.qu (Z.fE nM U)<|Q.bi U U U<|S.qu (Z.cv Tryz.underlying2 U (IntWalk.i64_in _ (by omega)) (by rw[Tryz.underlying5];rfl))<|?_
    refine S.qu (Z.sub U U (IntWalk.i64_in _ (by omega)))<|S.qu (Z.bd [0,1] iE U U U U U U)<|S.s<|D.st 0 av U U U U U U U U λ_=>US.nil<|UQ.aB<|?_
    refine S.qQ (_,_) ⟨rfl,rfl,rfl,rfl,rfl,rfl,trivial⟩ (.refl _) (by unfold BL at hsw;(repeat' split at hsw);all_goals first|omega|(cases hsw;exact⟨by rfl,by rfl⟩))
    refine S.sq<|Q.rg<|Q.bi U U U<|Q.as U<|Q.nt<|?_
    refine S.cE U (λabn=>?_) (λabn=>?_)
    refine UW.skip<|UQ.then<|S.cT U (kQ (by omega))<|Q.rg<|Q.mv U<|Q.mv U<|Q.mv U<|S.qu (Z.fG bR U)<|Q.mv U<|S.qu (Z.add (r:=((2*n+3:Nat):Int)) U U (IntWalk.i64_in _ (by omega)))<|?_
    refine S.qu (Z.eq (u':=.v (.int .i64 ((min c.length (2*n+3):Nat):Int))) (Z.min U U) (by rw[wI];congr 2;split<;>omega)) ?_
    refine S.qu (Z.eq (u':=BD ((c.take (min c.length (2*n+3))).drop (2*n))) (Z.Vk bR U (Jp _) (.both U U) (by omega) (by omega) U) (Qd _ _ _))<|S.qu (Z.call U U (λ_=>GD _ (hc.cut _ _) _))<|S.qu (Z.bd [0,2] iE U U U U U U)<|S.s<|D.st 0 av U U U U U U U U λ_=>Q.nt<|Q.rg<|Q.fa jZ U<|Q.lc 0 ed U U U<|S.qu (Z.call U U (λ_=>jk _ (Nat.le_trans (textOf_size _) (by decide)) _))<|Q.bi U U U<|Q.nt<|?_
    refine S.cD U (λhc95=>?_) (λhc95=>?_)
    refine S.rg<|Q.fa jZ U<|S.s<|D.st 0 ed U U U U U U U U λ_=>US.nil<|UQ.aB<|?_
    refine S.qQ (_,_) ⟨rfl,rfl,rfl,rfl,rfl,rfl,trivial⟩ (.refl _) (by unfold BL at hsw;(repeat' split at hsw);all_goals first|omega|(cases hsw;exact⟨by rfl,by rfl⟩))
    refine UW.skip<|UQ.aB<|?_
    refine S.qQ (_,_) ⟨rfl,rfl,rfl,rfl,rfl,rfl,trivial⟩ (.refl _) (by unfold BL at hsw;(repeat' split at hsw);all_goals first|omega|(cases hsw;exact⟨by rfl,by rfl⟩))
    refine S.rg<|Q.bi U U U<|Q.as U<|Q.nt<|?_
    refine S.cE U (λabn=>?_) (λabn=>?_)
    refine Q.rg<|Q.mv U<|Q.mv U<|Q.mv U<|S.qu (Z.fG bR U)<|Q.mv U<|S.qu (Z.add (r:=((2*n+3:Nat):Int)) U U (IntWalk.i64_in _ (by omega)))<|?_
    refine S.qu (Z.eq (u':=.v (.int .i64 ((min c.length (2*n+3):Nat):Int))) (Z.min U U) (by rw[wI];congr 2;split<;>omega)) ?_
    refine S.qu (Z.eq (u':=BD ((c.take (min c.length (2*n+3))).drop (2*n))) (Z.Vk bR U (Jp _) (.both U U) (by omega) (by omega) U) (Qd _ _ _))<|S.qu (Z.call U U (λ_=>GD _ (hc.cut _ _) _))<|S.qu (Z.bd [0,2] iE U U U U U U)<|S.s<|D.st 0 av U U U U U U U U λ_=>Q.nt<|Q.rg<|Q.fa jZ U<|Q.lc 0 ed U U U<|S.qu (Z.call U U (λ_=>jk _ (Nat.le_trans (textOf_size _) (by decide)) _))<|Q.bi U U U<|Q.nt<|?_
    refine S.cD U (λhc95=>?_) (λhc95=>?_)
    refine S.rg<|Q.fa jZ U<|S.s<|D.st 0 ed U U U U U U U U λ_=>US.nil<|UQ.aB<|?_
    refine S.qQ (_,_) ⟨rfl,rfl,rfl,rfl,rfl,rfl,trivial⟩ (.refl _) (by unfold BL at hsw;(repeat' split at hsw);all_goals first|omega|(cases hsw;exact⟨by rfl,by rfl⟩))
    refine UW.skip<|UQ.aB<|?_
    refine S.qQ (_,_) ⟨rfl,rfl,rfl,rfl,rfl,rfl,trivial⟩ (.refl _) (by unfold BL at hsw;(repeat' split at hsw);all_goals first|omega|(cases hsw;exact⟨by rfl,by rfl⟩))
    refine Q.rg<|Q.bi U U U<|Q.as U<|Q.nt<|?_
    refine S.cE U (λhc97=>?_) (λhc97=>?_)
    refine Q.rg<|Q.mv U<|Q.mv U<|S.qu (Z.M8 bM U)<|Q.mv U<|S.qu (Z.eq (u':=.v (.int .i64 ((l.length-lI b1 l:Nat):Int))) (Z.sub U U (IntWalk.i64_in _ (by omega))) (by congr 2;omega))<|?_
    refine S.qu (Z.Cn bM U (.hi U) (by omega) (by omega))<|Q.as U<|Q.nt<|S.rg<|Q.mv U<|S.qu (Z.bd [0,4] iE U U U U U U)<|S.s<|D.st 0 av U U U U U U U U λ_=>US.nil<|UQ.aB<|?_
    refine S.qQ (_,_) ⟨rfl,rfl,rfl,rfl,rfl,rfl,trivial⟩ (.refl _) (by unfold BL at hsw;(repeat' split at hsw);all_goals first|omega|(cases hsw;exact⟨by rfl,by rfl⟩))
    refine S.sq<|Q.rg<|Q.bi U U U<|Q.as U<|Q.nt<|?_
    refine S.cE U (λLZ=>?_) (λLZ=>?_)
    refine UW.skip<|UQ.then<|S.cT U (kQ (by omega))<|Q.rg<|Q.mv U<|Q.mv U<|S.qu (Z.M8 bM U)<|Q.mv U<|S.qu (Z.eq (u':=.v (.int .i64 ((l.length-lI b1 l:Nat):Int))) (Z.sub U U (IntWalk.i64_in _ (by omega))) (by congr 2;omega))<|?_
    refine S.qu (Z.Cn bM U (.hi U) (by omega) (by omega))<|Q.as U<|Q.nt<|Q.rg<|S.qu (Z.bd [0] iE U U U U U U)<|S.s<|D.st 0 av U U U U U U U U λ_=>Q.nt<|Q.rg<|Q.as U<|Q.nt<|UW.block<|?_
    rotate_left
    refine Q.rg<|Q.bi U U U<|Q.as U<|Q.nt<|?_
    refine S.cE U (λLZ=>?_) (λLZ=>?_)
    refine UW.skip<|UQ.then<|S.cT U (kQ (by omega))<|Q.rg<|Q.mv U<|Q.mv U<|S.qu (Z.M8 bM U)<|Q.mv U<|S.qu (Z.eq (u':=.v (.int .i64 ((l.length-lI b1 l:Nat):Int))) (Z.sub U U (IntWalk.i64_in _ (by omega))) (by congr 2;omega))<|?_
    refine S.qu (Z.Cn bM U (.hi U) (by omega) (by omega))<|Q.as U<|Q.nt<|Q.rg<|S.qu (Z.bd [0] iE U U U U U U)<|S.s<|D.st 0 av U U U U U U U U λ_=>Q.nt<|Q.rg<|Q.as U<|Q.nt<|UW.block<|?_
    rotate_left
    refine S.rg<|Q.bi U U U<|Q.as U<|Q.nt<|?_
    refine S.cE U (λLZ=>?_) (λLZ=>?_)
    refine Q.rg<|Q.mv U<|Q.mv U<|S.qu (Z.M8 bM U)<|Q.mv U<|S.qu (Z.eq (u':=.v (.int .i64 ((l.length-lI b1 l:Nat):Int))) (Z.sub U U (IntWalk.i64_in _ (by omega))) (by congr 2;omega))<|?_
    refine S.qu (Z.Cn bM U (.hi U) (by omega) (by omega))<|Q.as U<|Q.nt<|Q.rg<|S.qu (Z.bd [0] iE U U U U U U)<|S.s<|D.st 0 av U U U U U U U U λ_=>Q.nt<|Q.rg<|Q.as U<|Q.nt<|UW.block<|?_
    rotate_left
    refine UW.skip<|UQ.aB<|?_
    refine S.qQ (_,_) ⟨rfl,rfl,rfl,rfl,rfl,rfl,trivial⟩ (.refl _) (by unfold BL at hsw;(repeat' split at hsw);all_goals first|omega|(cases hsw;exact⟨by rfl,by rfl⟩))
    refine S.rg<|Q.mv U<|S.qu (Z.dA 0 av U U (Y _))<|S.qu (Z.bl iP U U (by intro cs h;cases List.mem_singleton.1 h;exact⟨by exact aA _,by exact Y _⟩))<|?_
    refine S.dd<|D.ap 1 iP U U (by omega) U (.sl (by intro cs h;cases List.mem_singleton.1 h;exact Y _)) (by(simp;omega)) hse λp147=>?_
    refine S.eq 147 (u:=.own p147 0 (m+1) 5) (u':=.own p147 0 (nE c (n+1)).length 5) (by rw[hsl])<|?_
    refine Q.as U<|US.nil<|UQ.aB<|UQ.then<|S.rg<|Q.mv U<|S.qu (Z.add (r:=((2*(n+1):Nat):Int)) U U (IntWalk.i64_in _ (by omega)))<|Q.as U<|US.nil<|?_
    refine S.back (_,_) ⟨rfl,rfl,rfl,rfl,rfl,trivial⟩ (by repeat (first|exact List.Sublist.refl _|refine .cons_cons _ ?_|refine .cons _ ?_)) (by omega) (by omega)
   ·refine S.loop (λq:Nat=>[(9,.v (.int .i64 (q:Int))),(7,.sl (aW (cZ b1 l))),(8,.ptr p8 0),(3,.own id 0 (l.length-lI b1 l-0) 5),(5,.v (.int .i64 ((2*n:Nat):Int))),(4,strs ym),(0,BD c),(2,.ptr p2 0)]) (λq=>[(p8,.box 26 (aD (nD b1 (cZ b1 l) q))),(id,.row 26 5 (aW l)),(p2,.box 26 (aD zeroV))]) (λq=>q<=(cZ b1 l).length) (λq=>(cZ b1 l).length-q) 0 (Nat.zero_le _) ⟨rfl,rfl,rfl,rfl,rfl,rfl,rfl,rfl,trivial⟩ (.refl _)<|?_
    rintro q hq
    have VG:=aP (cZ b1 l)
    by_cases hql:q<(cZ b1 l).length
    ·have hF:=wm b1 (cZ b1 l) Vm q (by omega)
     have hKs:=(wh b1 (cZ b1 l) Vm q).2.2.2.1
     have L6:=EK b1 q JR
     have hki:=zA b1 q JR
     have hgv:=Cx (cZ b1 l) q hql
     refine S.sq<|Q.rg<|Q.mv U<|Q.mv U<|S.qu (Z.fG bM U)<|Q.bi U U U<|Q.nt<|S.cT U (decide_eq_true (by omega))<|UW.skip<|UQ.then<|S.sq<|UW.block<|?_
     refine' UW.bG (by kernel_rfl) [0,0,0,0,8,28,60,124,252,0,512,2044,4092,8190,16382,0,0,98304,229376,524287,1048575] [some 124,some 125,some 126,some 127,some 128,some 129,some 130,some 131,some 132,some 133,some 134,some 135,some 136,some 137,some 138,some 139,some 140,some 141,some 142,some 143,none] [some (124,_),some (125,_),some (126,_),some (127,_),some (128,_),some (129,_),some (130,_),some (131,_),some (132,_),some (133,_),some (134,_),some (135,_),some (136,_),some (137,_),some (138,_),some (139,_),some (140,_),some (141,_),some (142,_),some (143,_),none] [20] [0,6,14,18] U (by decide) (by decide) (M.held (by decide) U U ?je (M.free (by decide) U U ?jf (M.free (by decide) U U ?jg (M.free (by decide) U U ?jh (M.free (by decide) U U ?ji (M.free (by decide) U U ?jK (M.held (by decide) U U ?mg (M.free (by decide) U U ?xP (M.free (by decide) U U ?xQ (M.free (by decide) U U ?xR (M.free (by decide) U U ?ze (M.free (by decide) U U ?IL (M.free (by decide) U U ?IM (M.free (by decide) U U ?IP (M.held (by decide) U U ?IQ (M.free (by decide) U U ?IU (M.free (by decide) U U ?IV (M.free (by decide) U U ?IW (M.held (by decide) U U ?IX (M.free (by decide) U U ?IY (M.skip M.nil))))))))))))))))))))) ?su
     case je=>exact Z.dA 0 av rfl rfl (Y _)
     case jf=>(intro _;exact Z.mv rfl)
     case jg=>(intro _;exact Z.mv rfl)
     case jh=>(intro _;exact Z.mv rfl)
     case ji=>(intro _;exact Z.add (r:=((2*n+1:Nat):Int)) rfl rfl (IntWalk.i64_in _ (by omega)))
     case jK=>(intro _;exact Z.ia bR rfl rfl (by omega) hg1 rfl)
     case mg=>exact Z.fE nM rfl
     case xP=>(intro _;exact Z.eq (u':=.v (.int .u8 (b1.tdiv 4))) (Z.bi rfl rfl rfl) (by congr 2;exact IntWalk.u8_in _ (by omega)))
     case xQ=>(intro _;exact Z.cv Tryz.underlying3 rfl (IntWalk.i64_in _ (by omega)) (by rw[Tryz.underlying5];rfl))
     case xR=>(intro _;exact Z.mv rfl)
     case ze=>(intro _;exact Z.mul rfl rfl (IntWalk.i64_in _ (by omega)))
     case IL=>(intro _;exact Z.add rfl rfl (IntWalk.i64_in _ (by omega)))
     case IM=>(intro _;exact Z.eq (u':=.v (.int .i64 ((Cg b1 q:Nat):Int))) (Z.bi rfl rfl rfl) (by rw[hki]))
     case IP=>(intro _;exact Z.ia aY rfl rfl (by omega) (by assumption) (by rfl))
     case IQ=>exact Z.fE ed rfl
     case IU=>(intro _;exact Z.mv rfl)
     case IV=>(intro _;exact Z.mv rfl)
     case IW=>(intro _;exact Z.ia bM rfl rfl (by omega) (by assumption) (by exact Y _))
     case IX=>exact Z.Gm av rfl (Y _)
     case IY=>(intro _;exact Z.eq (u':=.agg (aD (nD b1 (cZ b1 l) (q+1)))) (Z.call rfl rfl (λ_=>kJ _ hF hKs _ _ _)) rfl)
     refine CH.df U U<|D.uq 0 av U U U U (by exact aA _) (Y _) (Y _) U λ_=>?_
     refine CH.nil<|?_
     simp only[app,bV]
     refine UQ.aB<|UQ.then<|S.rg<|Q.mv U<|S.qu (Z.add (r:=((q+1:Nat):Int)) U U (IntWalk.i64_in _ (by omega)))<|Q.as U<|US.nil<|?_
     refine S.back _ ⟨rfl,rfl,rfl,rfl,rfl,rfl,rfl,rfl,trivial⟩ (.refl _) (by omega) (by omega)
    ·have hqe:q=(cZ b1 l).length:=by omega
     refine S.sq<|Q.rg<|Q.mv U<|Q.mv U<|S.qu (Z.fG bM U)<|Q.bi U U U<|Q.nt<|S.cF U (decide_eq_false (by omega))<|UW.exit<|UQ.pass<|UQ.pass<|UQ.here<|UQ.aB<|?_
     refine S.qQ (_,_) ⟨rfl,rfl,rfl,rfl,rfl,rfl,trivial⟩ (.refl _) (by unfold BL at hsw;(repeat' split at hsw);all_goals first|omega|(cases hsw;exact⟨by rfl,by rw[hqe]⟩))
   ·refine S.loop (λq:Nat=>[(9,.v (.int .i64 (q:Int))),(7,.sl (aW (cZ b1 l))),(8,.ptr p8 0),(3,.own id 0 (l.length-lI b1 l-0) 5),(5,.v (.int .i64 ((2*n:Nat):Int))),(4,strs ym),(0,BD c),(2,.ptr p2 0)]) (λq=>[(p8,.box 26 (aD (nD b1 (cZ b1 l) q))),(id,.row 26 5 (aW l)),(p2,.box 26 (aD zeroV))]) (λq=>q<=(cZ b1 l).length) (λq=>(cZ b1 l).length-q) 0 (Nat.zero_le _) ⟨rfl,rfl,rfl,rfl,rfl,rfl,rfl,rfl,trivial⟩ (.refl _)<|?_
    rintro q hq
    have VG:=aP (cZ b1 l)
    by_cases hql:q<(cZ b1 l).length
    ·have hF:=wm b1 (cZ b1 l) Vm q (by omega)
     have hKs:=(wh b1 (cZ b1 l) Vm q).2.2.2.1
     have L6:=EK b1 q JR
     have hki:=zA b1 q JR
     have hgv:=Cx (cZ b1 l) q hql
     refine S.sq<|Q.rg<|Q.mv U<|Q.mv U<|S.qu (Z.fG bM U)<|Q.bi U U U<|Q.nt<|S.cT U (decide_eq_true (by omega))<|UW.skip<|UQ.then<|S.sq<|UW.block<|?_
     refine' UW.bG (by kernel_rfl) [0,0,0,0,8,28,60,124,252,0,512,2044,4092,8190,16382,0,0,98304,229376,524287,1048575] [some 124,some 125,some 126,some 127,some 128,some 129,some 130,some 131,some 132,some 133,some 134,some 135,some 136,some 137,some 138,some 139,some 140,some 141,some 142,some 143,none] [some (124,_),some (125,_),some (126,_),some (127,_),some (128,_),some (129,_),some (130,_),some (131,_),some (132,_),some (133,_),some (134,_),some (135,_),some (136,_),some (137,_),some (138,_),some (139,_),some (140,_),some (141,_),some (142,_),some (143,_),none] [20] [0,6,14,18] U (by decide) (by decide) (M.held (by decide) U U ?lZ (M.free (by decide) U U ?l5 (M.free (by decide) U U ?l6 (M.free (by decide) U U ?l7 (M.free (by decide) U U ?o7 (M.free (by decide) U U ?oQ (M.held (by decide) U U ?oU (M.free (by decide) U U ?oV (M.free (by decide) U U ?xy (M.free (by decide) U U ?xz (M.free (by decide) U U ?zf (M.free (by decide) U U ?Jf (M.free (by decide) U U ?Jg (M.free (by decide) U U ?Jh (M.held (by decide) U U ?Ji (M.free (by decide) U U ?Jj (M.free (by decide) U U ?Jk (M.free (by decide) U U ?Jl (M.held (by decide) U U ?Jm (M.free (by decide) U U ?Jn (M.skip M.nil))))))))))))))))))))) ?Am
     case lZ=>exact Z.dA 0 av rfl rfl (Y _)
     case l5=>(intro _;exact Z.mv rfl)
     case l6=>(intro _;exact Z.mv rfl)
     case l7=>(intro _;exact Z.mv rfl)
     case o7=>(intro _;exact Z.add (r:=((2*n+1:Nat):Int)) rfl rfl (IntWalk.i64_in _ (by omega)))
     case oQ=>(intro _;exact Z.ia bR rfl rfl (by omega) hg1 rfl)
     case oU=>exact Z.fE nM rfl
     case oV=>(intro _;exact Z.eq (u':=.v (.int .u8 (b1.tdiv 4))) (Z.bi rfl rfl rfl) (by congr 2;exact IntWalk.u8_in _ (by omega)))
     case xy=>(intro _;exact Z.cv Tryz.underlying3 rfl (IntWalk.i64_in _ (by omega)) (by rw[Tryz.underlying5];rfl))
     case xz=>(intro _;exact Z.mv rfl)
     case zf=>(intro _;exact Z.mul rfl rfl (IntWalk.i64_in _ (by omega)))
     case Jf=>(intro _;exact Z.add rfl rfl (IntWalk.i64_in _ (by omega)))
     case Jg=>(intro _;exact Z.eq (u':=.v (.int .i64 ((Cg b1 q:Nat):Int))) (Z.bi rfl rfl rfl) (by rw[hki]))
     case Jh=>(intro _;exact Z.ia aY rfl rfl (by omega) (by assumption) (by rfl))
     case Ji=>exact Z.fE ed rfl
     case Jj=>(intro _;exact Z.mv rfl)
     case Jk=>(intro _;exact Z.mv rfl)
     case Jl=>(intro _;exact Z.ia bM rfl rfl (by omega) (by assumption) (by exact Y _))
     case Jm=>exact Z.Gm av rfl (Y _)
     case Jn=>(intro _;exact Z.eq (u':=.agg (aD (nD b1 (cZ b1 l) (q+1)))) (Z.call rfl rfl (λ_=>kJ _ hF hKs _ _ _)) rfl)
     refine CH.df U U<|D.uq 0 av U U U U (by exact aA _) (Y _) (Y _) U λ_=>?_
     refine CH.nil<|?_
     simp only[app,bV]
     refine UQ.aB<|UQ.then<|S.rg<|Q.mv U<|S.qu (Z.add (r:=((q+1:Nat):Int)) U U (IntWalk.i64_in _ (by omega)))<|Q.as U<|US.nil<|?_
     refine S.back _ ⟨rfl,rfl,rfl,rfl,rfl,rfl,rfl,rfl,trivial⟩ (.refl _) (by omega) (by omega)
    ·have hqe:q=(cZ b1 l).length:=by omega
     refine S.sq<|Q.rg<|Q.mv U<|Q.mv U<|S.qu (Z.fG bM U)<|Q.bi U U U<|Q.nt<|S.cF U (decide_eq_false (by omega))<|UW.exit<|UQ.pass<|UQ.pass<|UQ.here<|UQ.aB<|?_
     refine S.qQ (_,_) ⟨rfl,rfl,rfl,rfl,rfl,rfl,trivial⟩ (.refl _) (by unfold BL at hsw;(repeat' split at hsw);all_goals first|omega|(cases hsw;exact⟨by rfl,by rw[hqe]⟩))
   ·refine S.loop (λq:Nat=>[(9,.v (.int .i64 (q:Int))),(7,.sl (aW (cZ b1 l))),(8,.ptr p8 0),(3,.own id 0 (l.length-lI b1 l-0) 5),(5,.v (.int .i64 ((2*n:Nat):Int))),(4,strs ym),(0,BD c),(2,.ptr p2 0)]) (λq=>[(p8,.box 26 (aD (nD b1 (cZ b1 l) q))),(id,.row 26 5 (aW l)),(p2,.box 26 (aD zeroV))]) (λq=>q<=(cZ b1 l).length) (λq=>(cZ b1 l).length-q) 0 (Nat.zero_le _) ⟨rfl,rfl,rfl,rfl,rfl,rfl,rfl,rfl,trivial⟩ (.refl _)<|?_
    rintro q hq
    have VG:=aP (cZ b1 l)
    by_cases hql:q<(cZ b1 l).length
    ·have hF:=wm b1 (cZ b1 l) Vm q (by omega)
     have hKs:=(wh b1 (cZ b1 l) Vm q).2.2.2.1
     have L6:=EK b1 q JR
     have hki:=zA b1 q JR
     have hgv:=Cx (cZ b1 l) q hql
     refine S.sq<|Q.rg<|Q.mv U<|Q.mv U<|S.qu (Z.fG bM U)<|Q.bi U U U<|Q.nt<|S.cT U (decide_eq_true (by omega))<|UW.skip<|UQ.then<|S.sq<|UW.block<|?_
     refine' UW.bG (by kernel_rfl) [0,0,0,0,8,28,60,124,252,0,512,2044,4092,8190,16382,0,0,98304,229376,524287,1048575] [some 124,some 125,some 126,some 127,some 128,some 129,some 130,some 131,some 132,some 133,some 134,some 135,some 136,some 137,some 138,some 139,some 140,some 141,some 142,some 143,none] [some (124,_),some (125,_),some (126,_),some (127,_),some (128,_),some (129,_),some (130,_),some (131,_),some (132,_),some (133,_),some (134,_),some (135,_),some (136,_),some (137,_),some (138,_),some (139,_),some (140,_),some (141,_),some (142,_),some (143,_),none] [20] [0,6,14,18] U (by decide) (by decide) (M.held (by decide) U U ?xI (M.free (by decide) U U ?sD (M.free (by decide) U U ?sF (M.free (by decide) U U ?xJ (M.free (by decide) U U ?xK (M.free (by decide) U U ?xL (M.held (by decide) U U ?xM (M.free (by decide) U U ?xN (M.free (by decide) U U ?xO (M.free (by decide) U U ?NU (M.free (by decide) U U ?Iu (M.free (by decide) U U ?Iw (M.free (by decide) U U ?Yc (M.free (by decide) U U ?Yd (M.held (by decide) U U ?Ye (M.free (by decide) U U ?Yf (M.free (by decide) U U ?Yg (M.free (by decide) U U ?Yh (M.held (by decide) U U ?Yi (M.free (by decide) U U ?Yj (M.skip M.nil))))))))))))))))))))) ?Ir
     case xI=>exact Z.dA 0 av rfl rfl (Y _)
     case sD=>(intro _;exact Z.mv rfl)
     case sF=>(intro _;exact Z.mv rfl)
     case xJ=>(intro _;exact Z.mv rfl)
     case xK=>(intro _;exact Z.add (r:=((2*n+1:Nat):Int)) rfl rfl (IntWalk.i64_in _ (by omega)))
     case xL=>(intro _;exact Z.ia bR rfl rfl (by omega) hg1 rfl)
     case xM=>exact Z.fE nM rfl
     case xN=>(intro _;exact Z.eq (u':=.v (.int .u8 (b1.tdiv 4))) (Z.bi rfl rfl rfl) (by congr 2;exact IntWalk.u8_in _ (by omega)))
     case xO=>(intro _;exact Z.cv Tryz.underlying3 rfl (IntWalk.i64_in _ (by omega)) (by rw[Tryz.underlying5];rfl))
     case NU=>(intro _;exact Z.mv rfl)
     case Iu=>(intro _;exact Z.mul rfl rfl (IntWalk.i64_in _ (by omega)))
     case Iw=>(intro _;exact Z.add rfl rfl (IntWalk.i64_in _ (by omega)))
     case Yc=>(intro _;exact Z.eq (u':=.v (.int .i64 ((Cg b1 q:Nat):Int))) (Z.bi rfl rfl rfl) (by rw[hki]))
     case Yd=>(intro _;exact Z.ia aY rfl rfl (by omega) (by assumption) (by rfl))
     case Ye=>exact Z.fE ed rfl
     case Yf=>(intro _;exact Z.mv rfl)
     case Yg=>(intro _;exact Z.mv rfl)
     case Yh=>(intro _;exact Z.ia bM rfl rfl (by omega) (by assumption) (by exact Y _))
     case Yi=>exact Z.Gm av rfl (Y _)
     case Yj=>(intro _;exact Z.eq (u':=.agg (aD (nD b1 (cZ b1 l) (q+1)))) (Z.call rfl rfl (λ_=>kJ _ hF hKs _ _ _)) rfl)
     refine CH.df U U<|D.uq 0 av U U U U (by exact aA _) (Y _) (Y _) U λ_=>?_
     refine CH.nil<|?_
     simp only[app,bV]
     refine UQ.aB<|UQ.then<|S.rg<|Q.mv U<|S.qu (Z.add (r:=((q+1:Nat):Int)) U U (IntWalk.i64_in _ (by omega)))<|Q.as U<|US.nil<|?_
     refine S.back _ ⟨rfl,rfl,rfl,rfl,rfl,rfl,rfl,rfl,trivial⟩ (.refl _) (by omega) (by omega)
    ·have hqe:q=(cZ b1 l).length:=by omega
     refine S.sq<|Q.rg<|Q.mv U<|Q.mv U<|S.qu (Z.fG bM U)<|Q.bi U U U<|Q.nt<|S.cF U (decide_eq_false (by omega))<|UW.exit<|UQ.pass<|UQ.pass<|UQ.here<|UQ.aB<|?_
     refine S.qQ (_,_) ⟨rfl,rfl,rfl,rfl,rfl,rfl,trivial⟩ (.refl _) (by unfold BL at hsw;(repeat' split at hsw);all_goals first|omega|(cases hsw;exact⟨by rfl,by rw[hqe]⟩))
  ·focus
    refine S.sq<|Q.rg<|Q.mv U<|S.qu (Z.add U U (IntWalk.i64_in _ (by omega)))<|Q.mv U<|S.qu (Z.fG bR U)<|Q.bi U U U<|Q.mv U<|?_
    refine S.tD 16 (λhc16=>?_) (λhc16=>?_)
    rotate_left
    omega
    refine Q.on (Z.mv U)<|Q.on (Z.bi U U U)<|Q.pk U U<|Q.nt<|S.cF U (decide_eq_false (by omega))<|UW.exit<|UQ.pass<|UQ.pass<|UQ.here<|UQ.then<|Q.rg<|Q.mv U<|US.gG 148 0 (rs:=aW (nE c n)) U U (Nat.le_of_eq (by omega)) (by rw[List.drop_zero,<-hvl,List.take_length])<|?_
    refine S.qu (Z.bd [0,4] iE U U U U U U)<|S.s<|D.st 0 av U U U U U U U U λ_=>Q.nt<|UW.ret<|S.bK (λhd=>aU (k:=0) hd U U U fV fZ)<|?_
    focus (rw[show valOf c=.mk 4 0 ⟨#[]⟩ [] (nE c n) from by unfold valOf;congr 2;omega];rfl;done)
 ·refine S.sq<|Q.rg<|Q.mv U<|S.qu (Z.add U U (IntWalk.i64_in _ (by omega)))<|Q.mv U<|S.qu (Z.fG bR U)<|Q.bi U U U<|Q.mv U<|?_
  refine S.tD 16 (λhc16=>?_) (λhc16=>?_)
  omega
  refine Q.of<|Q.of<|Q.pk U U<|Q.nt<|S.cF U U<|UW.exit<|UQ.pass<|UQ.pass<|UQ.here<|UQ.then<|Q.rg<|Q.mv U<|US.gG 148 0 (rs:=aW (nE c n)) U U (Nat.le_of_eq (by omega)) (by rw[List.drop_zero,<-hvl,List.take_length])<|?_
  refine S.qu (Z.bd [0,4] iE U U U U U U)<|S.s<|D.st 0 av U U U U U U U U λ_=>Q.nt<|UW.ret<|S.bK (λhd=>aU (k:=0) hd U U U fV fZ)<|?_
  focus (rw[show valOf c=.mk 4 0 ⟨#[]⟩ [] (nE c n) from by unfold valOf;congr 2;omega];rfl;done)
end Go.Proofs.YtonpfomjoiaacaaGreatDoor
end
