/- A part of the proof. -/
import Derived.Test.YtonpfomjoiaacaaGreatDoorMw25
import Derived.Test.YtonpfomjoiaacaaGreatDoorMw14
import Derived.MapKept
import Derived.Carry
import Derived.Test.YtonpfomjoiaacaaGreatDoorMw18
set_option maxRecDepth 100000
set_option maxHeartbeats 4000000
set_option linter.unusedSectionVars false
set_option linter.unusedVariables false
set_option linter.unusedSimpArgs false
section
namespace Go.Proofs.YtonpfomjoiaacaaGreatDoor
open Go Go.iG Go.RowKit
def mP:ByteArray:=⟨#[65,66,67,68,69,70,71,72,73,74,75,76,77,78,79,80,81,82,83,84,85,86,87,88,89,90,97,98,99,100,101,102,103,104,105,106,107,108,109,110,111,112,113,114,115,116,117,118,119,120,121,122,48,49,50,51,52,53,54,55,56,57,45,95]⟩
def iE(all:List Int)(x:Nat):List Int:=(all.drop x).take 3
def jk(c:List Int):Nat->Int
 |0=>0
 |i+1=>jk c i*256+c.getD i 0
def NJ(n:Int)(i:Nat):Int:=n/2^(18-6*i)% 64
def UH(n:Int)(i:Nat):Int:=eO mP (NJ n i)
def partT(n:Int):Nat->ByteArray
 |0=>⟨#[]⟩
 |m+1=>partT n m++aN (UH n m)
def xc(c:List Int):ByteArray:=partT (jk c 3) (c.length+1)
def rX(all:List Int)(xs:List Nat):ByteArray:=xs.foldl (λs x=>s++xc (iE all x)) ⟨#[]⟩
def dO(all:List Int):ByteArray:=rX all (aK 3 ((all.length+2)/3))
theorem zQ(all:List Int)(xs:List Nat)(x:Nat):rX all (xs++[x])=rX all xs++xc (iE all x):=by unfold rX;rw[List.foldl_append];rfl
theorem zR(n:Int)(i:Nat):0<=NJ n i/\NJ n i<64:=by unfold NJ;omega
theorem nO(n:Int):∀m,(partT n m).size=m
 |0=>rfl
 |m+1=>by rw[partT,bf,nO n m,aU]
theorem qJ(all:List Int)(x:Nat):(iE all x).length=min 3 (all.length-x):=by unfold iE;rw[List.length_take,List.length_drop]
theorem Em{all:List Int}(h:fo all)(x:Nat):fo (iE all x):=λc hc=>h c (List.mem_of_mem_drop (List.mem_of_mem_take hc))
theorem uW(c:List Int):(xc c).size=c.length+1:=nO _ _
theorem Dw(all:List Int):∀(xs:List Nat) (s:ByteArray),s.size+xs.length<=(xs.foldl (λs x=>s++xc (iE all x)) s).size/\(xs.foldl (λs x=>s++xc (iE all x)) s).size<=s.size+4*xs.length
 |[],s=>by simp
 |x::r,s=>by
  have h:=Dw all r (s++xc (iE all x))
  rw[bf,uW,qJ] at h
  rw[List.foldl_cons,List.length_cons]
  omega
theorem nP(all:List Int)(xs:List Nat):xs.length<=(rX all xs).size/\(rX all xs).size<=4*xs.length:=by
 have h:=Dw all xs ⟨#[]⟩
 have e:(⟨#[]⟩:ByteArray).size=0:=rfl
 rw[e] at h
 unfold rX
 omega
theorem R4{c:List Int}(h:fo c):∀i,i<=3->0<=jk c i/\jk c i<2^(8*i)
 |0,_=>⟨Int.le_refl 0,by show(0:Int)<2^0;decide⟩
 |i+1,hi=>by
  obtain⟨h1,h2⟩:=R4 h i (by omega)
  have h3:=h.at i
  rw[jk,show 8*(i+1)=8*i+8 from by omega,Int.pow_add]
  have:(2:Int)^8=256:=by decide
  rw[this]
  omega
theorem Lv{c:List Int}(h:fo c){i:Nat}(hi:i<=3):0<=jk c i/\jk c i<16777216:=by
 obtain⟨h1,h2⟩:=R4 h i hi
 refine⟨h1,Int.lt_of_lt_of_le h2 ?_⟩
 match i,hi with
 |0,_=>decide
 |1,_=>decide
 |2,_=>decide
 |3,_=>decide
theorem xe(c:List Int)(i:Nat)(h:c.length<=i):c.getD i 0=0:=by rw[List.getD_eq_getElem?_getD,List.getElem?_eq_none h];rfl
theorem or64(a c:Int)(ha:0<=a)(ha2:a<16777216)(hc:0<=c)(hck:c<256):IntKind.i64.wrap (BitVec.ofInt IntKind.i64.bits (a*256)|||BitVec.ofInt IntKind.i64.bits c).toNat=a*256+c:=by
 obtain⟨a,rfl⟩:=Int.eq_ofNat_of_zero_le ha
 obtain⟨c,rfl⟩:=Int.eq_ofNat_of_zero_le hc
 have h1:((a:Int)*256)=((a*2^8:Nat):Int):=by simp
 have h2:c<2^8:=by omega
 rw[h1]
 rw[show IntKind.i64.bits=64 from rfl,BitVec.toNat_or,BitVec.toNat_ofInt,BitVec.toNat_ofInt]
 have e1:(((a*2^8:Nat):Int)%((2^64:Nat):Int)).toNat=a*2^8:=by omega
 have e2:(((c:Nat):Int)%((2^64:Nat):Int)).toNat=c:=by omega
 rw[e1,e2,<-Nat.shiftLeft_eq,<-Nat.shiftLeft_add_eq_or_of_lt h2,Nat.shiftLeft_eq,IntWalk.i64_in _ (by omega)]
 omega
theorem and63(a:Int)(ha:0<=a)(ha2:a<16777216):IntKind.i64.wrap (BitVec.ofInt IntKind.i64.bits a&&&BitVec.ofInt IntKind.i64.bits 63).toNat=a % 64:=by
 obtain⟨a,rfl⟩:=Int.eq_ofNat_of_zero_le ha
 rw[show IntKind.i64.bits=64 from rfl,BitVec.toNat_and,BitVec.toNat_ofInt,BitVec.toNat_ofInt]
 have e1:(((a:Nat):Int)%((2^64:Nat):Int)).toNat=a:=by omega
 have e2:((63:Int)%((2^64:Nat):Int)).toNat=2^6-1:=by decide
 rw[e1,e2,Nat.and_two_pow_sub_one_eq_mod,IntWalk.i64_in _ (by omega)]
 omega
theorem shl3(a:Int)(ha:0<=a)(ha2:a<16777216):IntKind.i64.wrap (a*2^min (8:Int).toNat IntKind.i64.bits)=a*256:=by
 show IntKind.i64.wrap (a*2^8)=_
 rw[IntWalk.i64_in _ (by omega)];omega
theorem shr3(a:Int)(ha:0<=a)(ha2:a<16777216)(i:Nat)(hi:i<=3):a.fdiv (2^min ((18:Int)-((6*i:Nat):Int)).toNat IntKind.i64.bits)=a/2^(18-6*i)/\0<=a/2^(18-6*i)/\a/2^(18-6*i)<16777216:=by
 have e:min ((18:Int)-((6*i:Nat):Int)).toNat IntKind.i64.bits=18-6*i:=by
  have:IntKind.i64.bits=64:=rfl
  omega
 have hp:(0:Int)<2^(18-6*i):=Int.pow_pos (by decide)
 rw[e,Int.fdiv_eq_ediv_of_nonneg _ (by omega)]
 refine⟨rfl,Int.ediv_nonneg ha (by omega),?_⟩
 exact Int.lt_of_le_of_lt (Int.ediv_le_self _ ha) ha2
theorem NK(s:ByteArray):s++(⟨#[]⟩:ByteArray)=s:=ByteArray.append_empty
theorem Dx(k:Nat):(aK 3 k).length=k:=by unfold aK;simp
theorem TS{n k:Nat}(h1:n<=k*3)(h2:k=0\/(k-1)*3<n):k=(n+2)/3:=by omega
theorem GA(all:List Int)(hl0:0<all.length)(hl:all.length<=10000000000)(hab:fo all)(H:Hp)(hG:Cx H):au Tryz.prog 128 [.sl (bC all)] H (bB H (.v (.string (dO all)))):=by
 refine aF (n:=44) (H0:=H) (I:=[]) Tryz.func128 (by kernel_rfl) U (by rw[Tryz.ntmps128];rfl) .nil<|?_
 refine Q.rg<|Q.as U<|Q.nt<|Q.rg<|S.dd<|D.alp z141 U U λp=>?_
 (refine US.rR (sz:=1) 0 1 5 (by decide) U U (λr0=>?_);simp only[List.set_cons_zero,List.set_cons_succ])
 refine Q.nt<|S.sq<|Q.rg<|Q.mv U<|S.qu (Z.call U U (λH=>Gv _ 3 (by decide) H))<|Q.nt<|UW.block<|?_
 have hfe:(λx:Nat=>AV.sl (((bC all).drop x).take 3))=λx=>AV.sl (bC (iE all x)):=by
  funext x;unfold iE;rw[Cu,Ct]
 refine UW.rangeFunc (α:=Nat) (β:=Nat×AV×ByteArray) (gf:=217) (df:=[.rp [.sl (bC all)],.rp [.v (.int .i64 3)]]) (λxs=>∃k,xs=aK 3 k/\(bC all).length<=k*3/\(k=0\/(k-1)*3<(bC all).length)) (λxs=>∃k,xs=aK 3 k) (bC all).length (λx=> .sl (bC (iE all x))) 0 U ⟨_,rfl,by kernel_rfl,by kernel_rfl⟩ (by decide) (by decide) (λρ w lb h1 h2=>hfe▸Gx (bC all) (lJ all) (by rw[dD];omega) 3 (by decide) (by decide) h1 h2) (λb=>xV p b.1 b.2.1 b.2.2) (λb=>xV p b.1 b.2.1 b.2.2) (λxs b=>Adr p b.2.1/\b.2.2=rX all xs) (λ_ _=>False) (r0,.v (.pointer none),⟨#[]⟩) ⟨.inl U,rfl⟩ U hG (λ_=>rfl) (λ_=>rfl) ?_ ?_ (λ_ _ _ h=>h.elim)
 ·intro lp pre x b hJ hN
  letI:Rd:=⟨some lp⟩
  obtain⟨r,a,s⟩:=b
  obtain⟨hA,hs⟩:=hJ
  dsimp only at hA hs⊢
  have hsz:=nP all pre
  rw[dD] at hN
  rw[<-hs] at hsz
  have hcl:=qJ all x
  have hce:=dD (iE all x)
  have hco:=Em hab x
  have hsn:=zQ all pre x
  rw[<-hs] at hsn
  generalize iE all x=c at*
  refine UW.block<|Q.rg<|Q.as U<|Q.nt<|S.sq<|Q.rg<|Q.mv U<|Q.nt<|UW.block<|S.loop (λi:Nat=>[(11,.v (.int .i64 (i:Int))),(5,.v (.int .i64 (jk c i))),(4,.sl (bC c)),(3,.ptr p 0)]) (λ_=>xV p r a s) (λi=>i<=3) (λi=>3-i) 0 (Nat.zero_le _) ⟨rfl,rfl,rfl,rfl,trivial⟩ (.refl _)<|?_
  intro i hi
  have hac:=Lv hco hi
  by_cases hlt:i<3
  ·have hs3:=shl3 _ hac.1 hac.2
   by_cases hic:i<c.length
   ·have hg:=qE c i hic
    have hat:=hco.at i
    refine Q.rg<|Q.bi U U U<|Q.nt<|S.sq<|S.cT U (decide_eq_true (by omega))<|UW.skip<|UQ.then<|S.sq<|UW.block<|Q.rg<|Q.mv U<|Q.as U<|Q.nt<|Q.rg<|Q.mv U<|S.qu (Z.shl (r:=jk c i*256) U U (by decide) hs3)<|Q.as U<|Q.nt<|Q.rg<|Q.mv U<|Q.mv U<|S.qu (Z.fM cK U)<|Q.bi U U U<|Q.nt<|S.cT U (decide_eq_true (by omega))<|S.rg<|Q.mv U<|Q.mv U<|Q.mv U<|S.qu (Z.ia cK U U (by omega) hg (by rfl))<|?_
    refine S.qu (Z.fO oW U)<|S.qu (Z.cv Tryz.underlying3 U (IntWalk.i64_in _ (by omega)) (by rw[Tryz.underlying5];rfl))<|?_
    refine S.qu (Z.eq (u':=.v (.int .i64 (jk c (i+1)))) (Z.bi U U U) (by rw[or64 _ _ hac.1 (by have:=Lv hco (show i+1<=3 by omega);rw[jk] at this;omega) hat.1 hat.2];rfl))<|?_
    refine Q.as U<|US.nil<|UQ.aB<|UQ.then<|S.rg<|S.qu (Z.add (r:=((i+1:Nat):Int)) U U (IntWalk.i64_in _ (by omega)))<|Q.mv U<|US.nil<|?_
    refine S.back _ ⟨rfl,rfl,rfl,rfl,trivial⟩ (.refl _) (by omega) (by omega)
   ·have hac1:jk c (i+1)=jk c i*256:=by rw[jk,xe c i (by omega),Int.add_zero]
    refine Q.rg<|Q.bi U U U<|Q.nt<|S.sq<|S.cT U (decide_eq_true (by omega))<|UW.skip<|UQ.then<|S.sq<|UW.block<|Q.rg<|Q.mv U<|Q.as U<|Q.nt<|Q.rg<|Q.mv U<|S.qu (Z.eq (u':=.v (.int .i64 (jk c (i+1)))) (Z.shl (r:=jk c i*256) U U (by decide) hs3) (by rw[hac1]))<|?_
    refine Q.as U<|Q.nt<|Q.rg<|Q.mv U<|Q.mv U<|S.qu (Z.fM cK U)<|Q.bi U U U<|Q.nt<|S.cF U (decide_eq_false (by omega))<|UW.skip<|UQ.aB<|UQ.then<|S.rg<|S.qu (Z.add (r:=((i+1:Nat):Int)) U U (IntWalk.i64_in _ (by omega)))<|Q.mv U<|US.nil<|?_
    refine S.back _ ⟨rfl,rfl,rfl,rfl,trivial⟩ (.refl _) (by omega) (by omega)
  ·have hi3:i=3:=by omega
   subst hi3
   have hfs:xc c=partT (jk c 3) (c.length+1):=rfl
   generalize jk c 3=n at*
   refine Q.rg<|Q.bi U U U<|Q.nt<|S.sq<|S.cF U (decide_eq_false (by omega))<|UW.exit<|UQ.pass<|UQ.pass<|UQ.here<|UQ.then<|Q.rg<|Q.mv U<|S.qu (Z.fM cK U)<|S.qu (Z.add U U (IntWalk.i64_in _ (by omega)))<|Q.mv U<|Q.nt<|UW.block<|S.loop (λm:Nat×Nat×AV=>[(31,.v (.int .i64 (m.1:Int))),(30,.v (.int .i64 ((bC c).length+1))),(5,.v (.int .i64 n)),(3,.ptr p 0)]) (λm=>xV p m.2.1 m.2.2 (s++partT n m.1)) (λm=>m.1<=c.length+1/\Adr p m.2.2) (λm=>c.length+1-m.1) (0,r,a) ⟨Nat.zero_le _,hA⟩ ⟨rfl,rfl,rfl,rfl,trivial⟩ (by show(xV p r a (s++⟨#[]⟩)).Sublist _;rw[NK];exact .refl _)<|?_
   rintro⟨m,r1,a1⟩ ⟨hm,hA1⟩
   dsimp only at hm hA1⊢
   by_cases hlt:m<c.length+1
   ·obtain⟨q1,q2,q3⟩:=shr3 n hac.1 hac.2 m (by omega)
    have hdb:=zR n m
    have hbb:=ql mP (NJ n m)
    have hst:(s++partT n m)++aN (eO mP (NJ n m))=s++partT n (m+1):=by rw[ByteArray.append_assoc];rfl
    have hps:=nO n m
    refine Q.rg<|Q.bi U U U<|Q.nt<|S.sq<|S.cT U (decide_eq_true (by omega))<|UW.skip<|UQ.then<|S.sq<|UW.block<|Q.rg<|Q.mv U<|Q.as U<|Q.nt<|S.rg<|Q.mv U<|Q.mv U<|S.qu (Z.mul (r:=((6*m:Nat):Int)) U U (IntWalk.i64_in _ (by omega)))<|S.qu (Z.sub U U (IntWalk.i64_in _ (by omega)))<|S.qu (Z.shr (r:=n/2^(18-6*m)) U U (by omega) q1)<|S.qu (Z.eq (u':=.v (.int .i64 (NJ n m))) (Z.bi U U U) (by rw[and63 _ q2 q3];rfl))<|?_
    refine S.qu (Z.is (p:=mP) Tryz.underlying9 U U (by omega) (by show _<(64:Int);omega))<|?_
    refine S.dd<|D.co (.cons 0 U (.cons 0 U .nil)) U U (λG hD=>kU p r1 a1 hA1 (s++partT n m) (s++partT n (m+1)) (by rw[bf];omega) _ hbb.1 hbb.2 hst G hD)<|?_
    (rintro _ _ ⟨rfl,r2,rfl⟩;simp only[xV,List.cons_append,List.nil_append])
    refine US.nil<|UQ.aB<|UQ.then<|S.rg<|S.qu (Z.add (r:=((m+1:Nat):Int)) U U (IntWalk.i64_in _ (by omega)))<|Q.mv U<|US.nil<|?_
    refine S.back (m+1,r2,.ptr p 0) ⟨rfl,rfl,rfl,rfl,trivial⟩ (.refl _) ?_ (by omega)
    exact⟨by show m+1<=c.length+1;omega,.inr U⟩
   ·have hme:m=c.length+1:=by omega
    subst hme
    rw[<-hfs]
    refine Q.rg<|Q.bi U U U<|Q.nt<|S.sq<|S.cF U (decide_eq_false (by omega))<|UW.exit<|UQ.pass<|UQ.pass<|UQ.here<|UQ.aB<|?_
    exact S.rdn (r1,a1,s++xc c) ⟨hA1,by rw[hsn]⟩ (.refl _)
 ·rintro xs ⟨r,a,s⟩ ⟨k,rfl,h1,h2⟩ ⟨hA,hs⟩
  rw[dD] at h1 h2
  have hk:=TS h1 h2
  have hsz:=nP all (aK 3 k)
  dsimp only at hA hs⊢
  rw[Dx] at hsz
  rw[hk] at hs
  rw[hk] at hsz
  have hs2:s=dO all:=hs
  clear hs
  subst hs2
  have hsz:(all.length+2)/3<=(dO all).size/\(dO all).size<=4*((all.length+2)/3):=hsz
  refine UQ.aB<|UQ.then<|Q.rg<|S.dd<|D.co (.cons 0 U (.cons 0 U .nil)) U U (λG hD=>wQ p r a (dO all) (by omega) (by omega) G hD)<|?_
  rintro _ _ ⟨rfl,rfl⟩
  refine Q.as U<|Q.nt<|UW.ret<|S.bH (λ_=>ak U U)<|?_
  rfl
theorem ZP(all:List Int)(x j:Nat)(hj:j<3):(iE all x).getD j 0=all.getD (x+j) 0:=by
 unfold iE
 rw[List.getD_eq_getElem?_getD,List.getD_eq_getElem?_getD,List.getElem?_take_of_lt hj,List.getElem?_drop]
theorem ZQ(n:Int)(m:Nat):mP.extract (NJ n m).toNat (NJ n m+1).toNat=aN (UH n m):=by
 have hdb:=zR n m
 rw[show(NJ n m+1).toNat=(NJ n m).toNat+1 from by omega,rV _ _ (by show _<64;omega),Int.toNat_of_nonneg hdb.1]
 rfl
theorem xg(all:List Int)(hl:all.length<=10000000000)(hab:fo all)(H:Hp):au Tryz.prog 72 [.sl (bC all)] H (bB H (.v (.string (dO all)))):=by
 have hel:=dD all
 refine aF (n:=58) (H0:=H) (I:=[]) Tryz.func72 (by kernel_rfl) U (by rw[Tryz.ntmps72];rfl) .nil<|?_
 refine Q.rg<|Q.as U<|Q.nt<|Q.rg<|Q.as U<|Q.nt<|S.sq<|Q.rg<|Q.as U<|Q.nt<|UW.block<|S.loop (λk:Nat=>[(4,.v (.int .i64 ((k*3:Nat):Int))),(3,.v (.string (rX all (aK 3 k)))),(0,.sl (bC all))]) (λ_=>[]) (λk=>k<=(all.length+2)/3) (λk=>(all.length+2)/3-k) 0 (Nat.zero_le _) ⟨rfl,rfl,rfl,trivial⟩ (.refl _)<|?_
 intro k hk
 have hsz:=nP all (aK 3 k)
 rw[Dx] at hsz
 by_cases hlt:k<(all.length+2)/3
 ·have hcl:=qJ all (k*3)
  have hco:=Em hab (k*3)
  have hat:=ZP all (k*3)
  have hsn:=zQ all (aK 3 k) (k*3)
  rw[<-fE] at hsn
  generalize rX all (aK 3 k)=s at hsz hsn⊢
  generalize iE all (k*3)=c at hcl hco hat hsn
  refine S.sq<|Q.rg<|Q.mv U<|Q.mv U<|S.qu (Z.fM cK U)<|Q.bi U U U<|Q.nt<|S.cT U (decide_eq_true (by omega))<|UW.skip<|UQ.then<|S.sq<|UW.block<|Q.rg<|Q.as U<|Q.nt<|Q.rg<|Q.mv U<|S.qu (Z.fM cK U)<|Q.mv U<|S.qu (Z.sub U U (IntWalk.i64_in _ (by omega)))<|?_
  refine S.qu (Z.eq (u':=.v (.int .i64 (c.length:Int))) (Z.min U U) (by rw[hcl];congr 2;split<;>omega)) ?_
  refine Q.as U<|Q.nt<|S.sq<|Q.rg<|Q.as U<|Q.nt<|UW.block<|S.loop (λj:Nat=>[(7,.v (.int .i64 (j:Int))),(6,.v (.int .i64 (c.length:Int))),(5,.v (.int .i64 (jk c j))),(4,.v (.int .i64 ((k*3:Nat):Int))),(3,.v (.string s)),(0,.sl (bC all))]) (λ_=>[]) (λj=>j<=3) (λj=>3-j) 0 (Nat.zero_le _) ⟨rfl,rfl,rfl,rfl,rfl,rfl,trivial⟩ (.refl _)<|?_
  intro j hj
  have hac:=Lv hco hj
  by_cases hlt3:j<3
  ·have hca:=hco.at j
   have hacn:jk c (j+1)=jk c j*256+c.getD j 0:=rfl
   by_cases hjc:j<c.length
   ·have hg:=qE all (k*3+j) (by omega)
    rw[<-hat j hlt3] at hg
    refine S.sq<|Q.rg<|Q.mv U<|Q.bi U U U<|Q.nt<|S.cT U (decide_eq_true (by omega))<|UW.skip<|UQ.then<|S.sq<|UW.block<|Q.rg<|Q.mv U<|S.qu (Z.mul (r:=jk c j*256) U U (by rw[IntWalk.i64_in _ (by omega)];omega))<|?_
    refine Q.as U<|Q.nt<|Q.rg<|Q.mv U<|Q.mv U<|Q.bi U U U<|Q.nt<|S.cT U (decide_eq_true (by omega))<|S.rg<|Q.mv U<|Q.mv U<|Q.mv U<|Q.mv U<|S.qu (Z.add (r:=((k*3+j:Nat):Int)) U U (IntWalk.i64_in _ (by omega)))<|S.qu (Z.ia cK U U (by omega) hg (by rfl))<|?_
    refine S.qu (Z.fO oW U)<|S.qu (Z.cv Tryz.underlying3 U (IntWalk.i64_in _ (by omega)) (by rw[Tryz.underlying5];rfl))<|?_
    refine S.qu (Z.add (r:=jk c (j+1)) U U (by rw[hacn];exact IntWalk.i64_in _ (by omega)))<|?_
    refine Q.as U<|US.nil<|UQ.aB<|UQ.then<|S.rg<|Q.mv U<|S.qu (Z.add (r:=((j+1:Nat):Int)) U U (IntWalk.i64_in _ (by omega)))<|Q.as U<|US.nil<|?_
    refine S.back _ ⟨rfl,rfl,rfl,rfl,rfl,rfl,trivial⟩ (.refl _) (by omega) (by omega)
   ·have hz:=xe c j (by omega)
    refine S.sq<|Q.rg<|Q.mv U<|Q.bi U U U<|Q.nt<|S.cT U (decide_eq_true (by omega))<|UW.skip<|UQ.then<|S.sq<|UW.block<|Q.rg<|Q.mv U<|S.qu (Z.mul (r:=jk c (j+1)) U U (by rw[hacn,hz,IntWalk.i64_in _ (by omega)];omega))<|?_
    refine Q.as U<|Q.nt<|Q.rg<|Q.mv U<|Q.mv U<|Q.bi U U U<|Q.nt<|S.cF U (decide_eq_false (by omega))<|UW.skip<|UQ.aB<|UQ.then<|S.rg<|Q.mv U<|S.qu (Z.add (r:=((j+1:Nat):Int)) U U (IntWalk.i64_in _ (by omega)))<|Q.as U<|US.nil<|?_
    refine S.back _ ⟨rfl,rfl,rfl,rfl,rfl,rfl,trivial⟩ (.refl _) (by omega) (by omega)
  ·have hi3:j=3:=by omega
   subst hi3
   have hfs:xc c=partT (jk c 3) (c.length+1):=rfl
   generalize jk c 3=n at*
   refine S.sq<|Q.rg<|Q.mv U<|Q.bi U U U<|Q.nt<|S.cF U (decide_eq_false (by omega))<|UW.exit<|UQ.pass<|UQ.pass<|UQ.here<|UQ.then<|Q.rg<|Q.as U<|Q.nt<|UW.block<|S.loop (λm:Nat=>[(8,.v (.int .i64 (m:Int))),(6,.v (.int .i64 (c.length:Int))),(5,.v (.int .i64 n)),(4,.v (.int .i64 ((k*3:Nat):Int))),(3,.v (.string (s++partT n m))),(0,.sl (bC all))]) (λ_=>[]) (λm=>m<=c.length+1) (λm=>c.length+1-m) 0 (Nat.zero_le _) ⟨rfl,rfl,rfl,rfl,congrArg (λz=>some (AV.v (Value.string z))) (NK s).symm,rfl,trivial⟩ (.refl _)<|?_
   intro m hm
   by_cases hltm:m<c.length+1
   ·obtain⟨q1,q2,q3⟩:=shr3 n hac.1 hac.2 m (by omega)
    have hdb:=zR n m
    have hst:(s++partT n m)++aN (UH n m)=s++partT n (m+1):=by rw[ByteArray.append_assoc];rfl
    have hps:=nO n m
    refine S.sq<|Q.rg<|Q.mv U<|Q.mv U<|Q.bi U U U<|Q.nt<|S.cT U (decide_eq_true (by omega))<|UW.skip<|UQ.then<|S.sq<|UW.block<|Q.rg<|Q.mv U<|Q.mv U<|S.qu (Z.mul (r:=((6*m:Nat):Int)) U U (IntWalk.i64_in _ (by omega)))<|S.qu (Z.sub U U (IntWalk.i64_in _ (by omega)))<|S.qu (Z.cv (r:=(18:Int)-((6*m:Nat):Int)) Tryz.underlying105 U (IntWalk.u64_in _ (by omega)) (by rw[Tryz.underlying3];rfl))<|?_
    refine S.qu (Z.shr (r:=n/2^(18-6*m)) U U (by omega) q1)<|S.qu (Z.eq (u':=.v (.int .i64 (NJ n m))) (Z.bi U U U) (by rw[Int.tmod_eq_emod_of_nonneg q2];rfl))<|?_
    refine Q.as U<|Q.nt<|S.rg<|Q.mv U<|Q.mv U<|Q.mv U<|S.qu (Z.add U U (IntWalk.i64_in _ (by omega)))<|S.qu (Z.eq (u':=.v (.string (aN (UH n m)))) (Z.slt (p:=mP) Tryz.underlying9 U (.bothI (by omega) (by omega) U U) (by omega) (by show _<=64;omega)) (by rw[ZQ]))<|?_
    refine S.qu (Z.eq (u':=.v (.string (s++partT n (m+1)))) (Z.cat U U (by rw[bf,aU];omega)) (by rw[hst]))<|?_
    refine Q.as U<|US.nil<|UQ.aB<|UQ.then<|S.rg<|Q.mv U<|S.qu (Z.add (r:=((m+1:Nat):Int)) U U (IntWalk.i64_in _ (by omega)))<|Q.as U<|US.nil<|?_
    refine S.back (m+1) ⟨rfl,rfl,rfl,rfl,rfl,rfl,trivial⟩ (.refl _) (by omega) (by omega)
   ·have hme:m=c.length+1:=by omega
    subst hme
    rw[<-hfs,<-hsn]
    refine S.sq<|Q.rg<|Q.mv U<|Q.mv U<|Q.bi U U U<|Q.nt<|S.cF U (decide_eq_false (by omega))<|UW.exit<|UQ.pass<|UQ.pass<|UQ.here<|UQ.aB<|UQ.then<|S.rg<|Q.mv U<|S.qu (Z.add (r:=(((k+1)*3:Nat):Int)) U U (by rw[IntWalk.i64_in _ (by omega)];omega))<|?_
    refine Q.as U<|US.nil<|?_
    refine S.back (k+1) ⟨rfl,rfl,rfl,trivial⟩ (.refl _) (by omega) (by omega)
 ·have hkq:k=(all.length+2)/3:=by omega
  subst hkq
  refine S.sq<|Q.rg<|Q.mv U<|Q.mv U<|S.qu (Z.fM cK U)<|Q.bi U U U<|Q.nt<|S.cF U (decide_eq_false (by omega))<|UW.exit<|UQ.pass<|UQ.pass<|UQ.here<|UQ.then<|Q.rg<|Q.mv U<|Q.as U<|Q.nt<|UW.ret<|S.bH (λ_=>ak U U)<|?_
  rfl
end Go.Proofs.YtonpfomjoiaacaaGreatDoor
end
section
namespace Go.iG
open Go Go.MapKept Go.RowKit
section
variable [Rd]
def D6(P:Program)(t:TypeId):Option Nat:=
 match P.underlying t with
 |some (.map k e)=>match P.underlying k with
  |some .string=>some e
  |_=>none
 |_=>none
theorem Cz{P:Program}{t e:Nat}(h:D6 P t=some e):∃k,P.underlying t=some (.map k e)/\P.underlying k=some .string:=by
 unfold D6 at h
 split at h
 ·rename_i k e' hu
  split at h
  ·rename_i hk;cases h;exact⟨k,hu,hk⟩
  ·cases h
 ·cases h
def l6:List (ByteArray×AV)->ByteArray->Option AV
 |[],_=>none
 |(k,u)::r,s=>if s=k then some u else l6 r s
theorem zS(s:ByteArray):∀(es:List (ByteArray×AV)) (l:List MapEntry) (i:Nat),l.map (·.key)=es.map (λe=>Value.string e.1)->
 (l6 es s=none->Instr.findNow .string (.string s) l i=some none)/\(∀u,l6 es s=some u->∃(j:Nat) (v:Value),Instr.findNow .string (.string s) l i=some (some (i+j,v))/\(l.map (·.val))[j]? =some v/\(es.map (·.2))[j]? =some u)
 |[],[],i,_=>⟨λ_=>rfl,λu h=>by cases h⟩
 |[],_::_,i,h=>by cases h
 |_::_,[],i,h=>by cases h
 |(k,u0)::r,e::l,i,h=>by
  simp only[List.map_cons,List.cons.injEq] at h
  obtain⟨h1,h2⟩:=h
  obtain⟨a,b⟩:=zS s r l (i+1) h2
  by_cases hs:s=k
  ·subst hs
   refine⟨λhh=>by simp[l6] at hh,λu hh=>⟨0,e.val,?_,rfl,?_⟩⟩
   ·have hss:(s==s)=true:=(bytes_beq s s).2 U
    simp only[Instr.findNow,h1,Instr.sameNow,hss,Nat.add_zero]
   ·simp[l6] at hh
    simp[hh]
  ·have hne:(s==k)=false:=by
    cases hb:(s==k) with
    |false=>rfl
    |true=>exact absurd ((bytes_beq s k).1 hb) hs
   constructor
   ·intro hh
    simp only[l6,if_neg hs] at hh
    simp[Instr.findNow,h1,Instr.sameNow,hne,a hh]
   ·intro u hh
    simp only[l6,if_neg hs] at hh
    obtain⟨j,v,h3,h4,h5⟩:=b u hh
    refine⟨j+1,v,?_,by simpa using h4,by simpa using h5⟩
    simp[Instr.findNow,h1,Instr.sameNow,hne,h3]
    omega
section
variable {P:Program} {n:Nat} {ops:Array Oper} {T:Sl} {H H0:Hp} {o:Oper} {K:AV->Hp->Prop} {l:List (Nat×AV)} {I:List (Nat×Ob)} {x y z:Operand} {dst:Option Nat} {ty t:TypeId} {ps:String} {af:Array Edge} {u:AV} {es:List (ByteArray×AV)} {id:Nat} {s:ByteArray}
theorem Does.makeMap(hg:o.guard=none)(ho:o.op=.makeMap t none)(hk:∀id,H id=none->K (.mpr id) (set H id (some (.mp [])))):Does P n ops o T H K:=by
 refine Does.Aj hg λa w ρ h hr=>?_
 have hex:(execOp a.eval o).run P w=.ok (.value (.map (some w.heap.size))) (w.alloc (.map #[] 0)):=by
  unfold execOp
  rw[ho]
  simp only[Option.map_none,Sem.run_bind,run_makeMap,Result.andThen_ok,Sem.run_pure]
 refine⟨_,_,_,.mp [],hex,iP _ _,?_,λρ' H' e'=>⟨w.heap.size, #[],0,rfl,heap_alloc_new w _,rfl,⟨rfl,λj u x h=>by simp at h⟩,λi e h=>by simp at h,rfl⟩,λid hid=>⟨.mpr id,λok' ρ' h'=> .mpr id _ h',hk id hid⟩⟩
 intro k hk;cases hk;rw[size_alloc];simp
theorem Qq{ρ:ik}{w:World}{v:Value}(h:eu ρ H w)(h2:H id=some (.mp es))(hx:eF (bF ρ H) ρ w (.mpr id) v):
 ∃g l wz,v=.map (some g)/\ρ id=some (.map (some g))/\w.heap[g]? =some (.map l wz)/\l.toList.map (·.key)=es.map (λe=>Value.string e.1)/\uh (bF ρ H) ρ w (es.map (·.2)) (l.toList.map (·.val))/\UJ l wz:=by
 obtain⟨v0,hv0,g,l,wz,rfl,hg,h3,h4,h5⟩:=h.ob _ _ h2
 cases hx with
 |mpr _ g' hr=>rw[hv0] at hr;cases hr;exact⟨g,l,wz,rfl,hv0,hg,h3,h4,h5⟩
theorem Does.insert{e:Nat}(hg:o.guard=none)(ho:o.op=.insert t x y z\/o.op=.mapUpdate t x y z)(ht:D6 P t=some e)(hx:ev T x=.mpr id)(h2:H id=some (.mp es))(hy:ev T y=.v (.string s))(hz:ev T z=u)(hn:l6 es s=none)
 (hk:K .any (set H id (some (.mp (es++[(s,u)]))))):Does P n ops o T H K:=by
 intro a w ρ h1 hd h3 h4 N Q hN
 rw[if_pos (by simp[Region.wanted,hg])]
 have hr:=iH h4
 have h5:=hr x
 rw[hx] at h5
 have h6:=aV (by have:=hr y;rw[hy] at this;exact this)
 have h7:=hr z
 rw[hz] at h7
 obtain⟨kt,hu,hkt⟩:=Cz ht
 obtain⟨g,l,wz,kQ,hρ,hg0,hkeys,Dy,D7⟩:=Qq h3 h2 h5
 have hkey:IsKey .string (.string s):=trivial
 have hf:=(zS s es l.toList 0 hkeys).1 hn
 have hex:(execOp a.eval o).run P w=.ok .skip {w with heap:=w.heap.setIfInBounds g (.map (l.push ⟨.string s,a.eval z,wz⟩) (wz+1))}:=by
  unfold execOp
  rcases ho with ho|ho<;>rw[ho]<;>
  simp[kQ,h6,Instr.mapUpdate,run_underlying hu,Go.MapKept.run_getObj_map hg0,run_checkKey hkt hkey,run_findKey hkt hf,Go.MapKept.run_setObj_map _ hg0,Result.andThen]
 obtain⟨hs1,hs2⟩:=heap_set (o':=.map (l.push ⟨.string s,a.eval z,wz⟩) (wz+1)) hg0
 have hw:=h3.write (w':={w with heap:=w.heap.setIfInBounds g (.map (l.push ⟨.string s,a.eval z,wz⟩) (wz+1))}) (.mp (es++[(s,u)])) h2 hρ U U U (by simp) (λk _ hk=>hs2 k (λe=>hk (by rw[e];rfl))) (λρ' H' e' _=>⟨g,_,_,rfl,hs1,by simp[hkeys],by
  have hv1:=e'.vals Dy
  have hz1:=e'.rep h7
  refine⟨by simpa using hv1.1,λj u' x' q1 q2=>?_⟩
  simp only[List.map_append,List.map_cons,List.map_nil,Array.toList_push] at q1 q2
  by_cases hj:j<(es.map (·.2)).length
  ·rw[List.getElem?_append_left hj] at q1
   rw[List.getElem?_append_left (by rw[<-hv1.1];exact hj)] at q2
   exact hv1.2 j u' x' q1 q2
  ·rw[List.getElem?_append_right (by omega)] at q1
   rw[List.getElem?_append_right (by rw[<-hv1.1];omega),<-hv1.1] at q2
   generalize j-(es.map (·.2)).length=m at q1 q2
   cases m with
   |zero=>simp at q1 q2;subst q1 q2;exact hz1
   |succ m=>simp at q1,λi e he=>by
  rw[Array.getElem?_push] at he
  by_cases hi:i=l.size
  ·rw[if_pos hi] at he
   cases he
   rw[hi];exact D7.2
  ·rw[if_neg hi] at he
   exact D7.1 i e he,by rw[Array.size_push,D7.2]⟩)
 unfold Oper.wp
 rw[hex]
 exact hN undef _ ρ .any _ hw.1 hw.2 (.any _) hk
theorem Does.lookup{e:Nat}{zv:Value}(hg:o.guard=none)(ho:o.op=.lookup t x y false)(ht:D6 P t=some e)(hz:(P.info? e).map (·.zero)=some (some zv))(hx:ev T x=.mpr id)(h2:H id=some (.mp es))(hy:ev T y=.v (.string s))(hu:(l6 es s).getD (.v zv)=u)(hk:K u H):Does P n ops o T H K:=by
 refine Does.val u hg (λa w ρ hh hr=>?_) hk
 have h5:=hr x
 rw[hx] at h5
 have h6:=aV (by have:=hr y;rw[hy] at this;exact this)
 obtain⟨kt,hut,hkt⟩:=Cz ht
 obtain⟨g,l,wz,kQ,hρ,hg0,hkeys,Dy,_⟩:=Qq hh h2 h5
 have hkey:IsKey .string (.string s):=trivial
 obtain⟨f1,f2⟩:=zS s es l.toList 0 hkeys
 obtain⟨ie,hie,hze⟩:=Option.map_eq_some_iff.1 hz
 cases hl:l6 es s with
 |none=>
  refine⟨zv,?_,by rw[<-hu,hl];exact .v _⟩
  unfold execOp
  rw[ho]
  simp[kQ,h6,Instr.lookup,run_underlying hut,Go.MapKept.run_getObj_map hg0,run_checkKey hkt hkey,run_findKey hkt (f1 hl),zeroValue,typeInfo,hie,hze,Result.andThen]
 |some u'=>
  obtain⟨j,v,q1,q2,q3⟩:=f2 u' hl
  refine⟨v,?_,by rw[<-hu,hl];exact Dy.2 j _ _ q3 q2⟩
  unfold execOp
  rw[ho]
  simp[kQ,h6,Instr.lookup,run_underlying hut,Go.MapKept.run_getObj_map hg0,run_checkKey hkt hkey,run_findKey hkt q1,Result.andThen]
theorem D.mkm{K:AV->List (Nat×Ob)->Prop}(hk:∀id,K (.mpr id) ((id,.mp [])::I)):DS P n ops H0 ⟨dst,.makeMap t none,ty,ps,af,none⟩ l I K:=
 λay=>Does.makeMap U U λid hid=>⟨(id,.mp [])::I,rfl,.cons hid ay,hk id⟩
theorem D.ins{e:Nat}{aM:List (Nat×Ob)}{K:AV->List (Nat×Ob)->Prop}(k:Nat)(ht:D6 P t=some e)(hx:aW l x=some (.mpr id))(h2:I[k]? =some (id,.mp es))(hy:aW l y=some (.v (.string s)))(hz:aW l z=some u)(hn:l6 es s=none)(ji:I.set k (id,.mp (es++[(s,u)]))=aM)(hk:∀u,K u aM):DS P n ops H0 ⟨dst,.insert t x y z,ty,ps,af,none⟩ l I K:=λay=>by
 subst ji
 exact Does.insert U (.inl U) ht (aG hx) (ay.at_ h2) (aG hy) (aG hz) hn ⟨_,(ay.ku _ h2).1,(ay.ku _ h2).2,hk _⟩
theorem D.mup{e:Nat}{aM:List (Nat×Ob)}{K:AV->List (Nat×Ob)->Prop}(k:Nat)(ht:D6 P t=some e)(hx:aW l x=some (.mpr id))(h2:I[k]? =some (id,.mp es))(hy:aW l y=some (.v (.string s)))(hz:aW l z=some u)(hn:l6 es s=none)(ji:I.set k (id,.mp (es++[(s,u)]))=aM)(hk:∀u,K u aM):DS P n ops H0 ⟨dst,.mapUpdate t x y z,ty,ps,af,none⟩ l I K:=λay=>by
 subst ji
 exact Does.insert U (.inr U) ht (aG hx) (ay.at_ h2) (aG hy) (aG hz) hn ⟨_,(ay.ku _ h2).1,(ay.ku _ h2).2,hk _⟩
theorem Z.lkm{e:Nat}{zv:Value}(k:Nat)(ht:D6 P t=some e)(hz:(P.info? e).map (·.zero)=some (some zv))(hx:aW l x=some (.mpr id))(h2:I[k]? =some (id,.mp es))(hy:aW l y=some (.v (.string s)))(hu:(l6 es s).getD (.v zv)=u):QS P n ops H0 ⟨dst,.lookup t x y false,ty,ps,af,none⟩ l I u:=λhd=>Does.lookup U U ht hz (aG hx) (hd.at_ h2) (aG hy) hu ⟨rfl,rfl⟩
theorem Does.TT{e mid:Nat}(hg:o.guard=none)(ho:o.op=.range t x)(ht:D6 P t=some e)(hx:ev T x=.mpr mid)(hm:H mid=some (.mp es))
 (hk:∀id,H id=none->K (.ptr id 0) (set H id (some (.Ah mid es.length [])))):Does P n ops o T H K:=by
 refine Does.Aj hg λa w ρ h hr=>?_
 have h3:=hr x
 rw[hx] at h3
 obtain⟨kt,hut,_⟩:=Cz ht
 obtain⟨g,ml,wz,kQ,hρ,hg0,hkeys,Dy,D7⟩:=Qq h hm h3
 have hlen:wz=es.length:=by
  have:=congrArg List.length hkeys
  rw[List.length_map,List.length_map] at this
  rw[D7.2,<-this];rfl
 refine⟨.pointer (some ⟨w.heap.size,0,none⟩),.pointer (some ⟨w.heap.size,0,none⟩),w.alloc (.mapIter (some g) es.length (List.toArray []) es.length),.Ah mid es.length [],?_,iP _ _,?_,λρ' H' e=>⟨_,g,rfl,e.ME _ _ hρ,heap_alloc_new w _⟩,?_⟩
 ·unfold execOp
  rw[ho]
  simp[kQ,Instr.range,run_underlying hut,Go.MapKept.run_getObj_map hg0,Result.andThen,hlen]
 ·intro k hk;cases hk;rw[size_alloc];simp
 ·intro id hid
  exact⟨.ptr id 0,λok' ρ' h=> .ptr id 0 _ _ h (.inl U),hk id hid⟩
theorem VY{ρ:ik}{w:World}{mid nn:Nat}{seen:List Nat}{v:Value}(h:eu ρ H w)(h2:H id=some (.Ah mid nn seen))(hr:eF (bF ρ H) ρ w (.ptr id 0) v):
 ∃g gm,v=.pointer (some ⟨g,0,none⟩)/\ρ id=some v/\ρ mid=some (.map (some gm))/\w.heap[g]? =some (.mapIter (some gm) nn (List.toArray seen) nn):=by
 obtain⟨v',hv,g,gm,rfl,hm,hg⟩:=h.ob id _ h2
 cases hr with
 |ptr _ _ g' x' hx hx'=>
  rw[hv] at hx
  cases hx
  rcases hx' with h3|⟨_,_,h3⟩
  ·cases h3;exact⟨g,gm,rfl,hv,hm,hg⟩
  ·cases h3
theorem Lx(w:World)(ty:TypeId)(g gm nn:Nat)(seen:List Nat)(ml:Array MapEntry)(hg:w.heap[g]? =some (.mapIter (some gm) nn (List.toArray seen) nn))(hm:w.heap[gm]? =some (.map ml nn))(hok:UJ ml nn):
 ((∀i,i<nn->i∈seen)/\(Instr.next (.pointer (some ⟨g,0,none⟩)) false ty).run P w=.ok (.tuple #[.bool false]) w)\/
 ∃i e w1,i∉seen/\ml[i]? =some e/\(w1=w\/w1=w.drew)/\(Instr.next (.pointer (some ⟨g,0,none⟩)) false ty).run P w=.ok (.tuple #[.bool true,e.key,e.val]) {w1 with heap:=w.heap.setIfInBounds g (.mapIter (some gm) nn (List.toArray (seen++[i])) nn)}:=by
 have hborn:∀x∈ml,x.born<nn:=λx hx=>by
  obtain⟨i,hi,rfl⟩:=Array.mem_iff_getElem.1 hx
  have:=hok.1 i _ (Array.getElem?_eq_getElem hi)
  rw[this,hok.2];exact hi
 have htest:(!(List.toArray seen).isEmpty&&!ml.isEmpty&&ml.all (λx=>decide (x.born>=nn)))=false:=by
  by_cases h0:ml.size=0
  ·rw[Array.eq_empty_of_size_eq_zero h0];simp
  ·have:ml.all (λx=>decide (x.born>=nn))=false:=by
    rw[Bool.eq_false_iff]
    intro h
    rw[Array.all_eq_true_iff_forall_mem] at h
    have h1:=h _ (Array.getElem_mem (by omega:0<ml.size))
    have h2:=hborn _ (Array.getElem_mem (by omega:0<ml.size))
    simp at h1
    omega
   rw[this,Bool.and_false]
 simp only[Instr.next,getObj,Sem.run_bind,Sem.run,hg,hm,Result.andThen,htest,Bool.false_eq_true,if_false]
 have hmem:∀x∈ml.filter (λe=>!(List.toArray seen).contains e.born),x.born<nn:=λx hx=>hborn x (Array.mem_filter.1 hx).1
 have hin:∀x,x∈ml.filter (λe=>!(List.toArray seen).contains e.born)↔x∈ml/\x.born∉seen:=λx=>by rw[Array.mem_filter];simp
 generalize ml.filter (λe=>!(List.toArray seen).contains e.born)=L at hmem hin⊢
 have e1:L.filter (λx=>decide (x.born<nn))=L:=Array.filter_eq_self.2 (λx hx=>by simpa using hmem x hx)
 have e2:L.filter (λx=>decide (x.born>=nn))= #[]:=by
  rw[Array.filter_eq_empty_iff]
  intro x hx
  have:=hmem x hx
  simp
  omega
 simp only[e1,e2,Array.append_empty]
 by_cases h0:L.size=0
 ·refine .inl ⟨λi hi=>?_,?_⟩
  ·by_cases hs:i∈seen
   ·exact hs
   ·have hil:i<ml.size:=by rw[<-hok.2];exact hi
    have h1:=hok.1 i _ (Array.getElem?_eq_getElem hil)
    have h2:ml[i]∈L:=(hin _).2 ⟨Array.getElem_mem hil,by rw[h1];exact hs⟩
    rw[Array.eq_empty_of_size_eq_zero h0] at h2
    simp at h2
  ·rw[Array.eq_empty_of_size_eq_zero h0]
   simp[choose,Sem.run,Question.forced]
 ·have hne:L.isEmpty=false:=by simp[Array.isEmpty,h0]
  simp only[hne,Bool.false_eq_true,if_false,Array.empty_append,Array.size_map]
  have hch:∃(j:Nat) (w1:World),j<L.size/\(w1=w\/w1=w.drew)/\(choose (Question.mapNext L.size)).run P w=.ok j w1:=by
   by_cases hf:L.size<=1
   ·exact⟨0,w,by omega,.inl U,by simp[choose,Sem.run,Question.forced,hf]⟩
   ·exact⟨_,w.drew,Nat.mod_lt _ (by omega),.inr U,by
     simp only[choose,Sem.run,Question.forced,decide_eq_true_eq,hf,if_false,Question.cut]
     rfl⟩
  obtain⟨j,w1,hj,hw1,hrun⟩:=hch
  obtain⟨hx1,hx2⟩:=(hin _).1 (Array.getElem_mem hj)
  obtain⟨i,hi,he⟩:=Array.mem_iff_getElem.1 hx1
  have hb:=hok.1 i _ (Array.getElem?_eq_getElem hi)
  rw[he] at hb
  refine .inr ⟨i,L[j],w1,by rw[<-hb];exact hx2,by rw[<-he];exact Array.getElem?_eq_getElem hi,hw1,?_⟩
  have hh:w1.heap=w.heap:=by rcases hw1 with rfl|rfl<;>rfl
  have hg1:w1.heap[g]? =some (.mapIter (some gm) nn (List.toArray seen) nn):=by rw[hh];exact hg
  have hp:(List.toArray seen).push L[j].born=List.toArray (seen++[i]):=by rw[hb];simp
  simp only[hrun,Array.getElem?_map,Array.getElem?_eq_getElem hj,Option.map_some,Sem.run_bind,setObj,Sem.run,hg1,Result.andThen,hp]
  rw[<-hh]
  rfl
theorem Does.VZ{mid nn:Nat}{seen:List Nat}(hg:o.guard=none)(ho:o.op=.next x false)(hx:ev T x=.ptr id 0)(h2:H id=some (.Ah mid nn seen))(hm:H mid=some (.mp es))(hn:es.length=nn)
 (hk0:(∀i,i<nn->i∈seen)->K (.kX [.v (.bool false)]) H)
 (hk1:∀i s u,i∉seen->es[i]? =some (s,u)->K (.kX [.v (.bool true),.v (.string s),u]) (set H id (some (.Ah mid nn (seen++[i]))))):Does P n ops o T H K:=by
 intro a w ρ h1 hd h3 h4 N Q hN
 rw[if_pos (by simp[Region.wanted,hg])]
 have hr:=iH h4
 have h5:=hr x
 rw[hx] at h5
 obtain⟨g,gm,kQ,hρ,ZR,hgg⟩:=VY h3 h2 h5
 obtain⟨_,hvm,gm',ml,wz,rfl,hgm,hkeys,Dy,D7⟩:=h3.ob mid _ hm
 rw[ZR] at hvm
 cases hvm
 have hlen:ml.size=es.length:=by
  have:=congrArg List.length hkeys
  rw[List.length_map,List.length_map] at this
  exact this
 have hclk:wz=nn:=by rw[D7.2,hlen,hn]
 subst hclk
 rcases Lx (P:=P) w o.type g gm wz seen ml hgg hgm D7 with ⟨hall,hrun⟩|⟨i,e,w1,hi,hie,hw1,hrun⟩
 ·have hex:(execOp a.eval o).run P w=.ok (.value (.tuple #[.bool false])) w:=by
   unfold execOp
   rw[ho]
   simp only[kQ,Sem.run_bind,hrun,Result.andThen_ok,Sem.run_pure]
  unfold Oper.wp
  rw[hex]
  exact hN _ _ ρ _ _ h3 (Ext.refl _ _ _) (.kX _ [.bool false] U (λj u y h6 h7=>by
   match j with
   |0=>simp at h6 h7;subst h6 h7;exact .v _
   |j+1=>simp at h6)) (hk0 hall)
 ·have hil:i<ml.size:=(Array.getElem?_eq_some_iff.1 hie).1
  obtain⟨⟨s,u⟩,hes⟩:∃p,es[i]'(by omega)=p:=⟨_,rfl⟩
  have hes':es[i]? =some (s,u):=by rw[List.getElem?_eq_getElem (by omega),hes]
  have hkey:e.key=.string s:=by
   have:=congrArg (λl=>l[i]?) hkeys
   simp only[List.getElem?_map,hes',Option.map_some] at this
   rw[Array.getElem?_toList,hie] at this
   simpa using this
  have hval:=Dy.2 i u e.val (by simp[List.getElem?_map,hes']) (by simp[List.getElem?_map,hie])
  have hex:(execOp a.eval o).run P w=.ok (.value (.tuple #[.bool true,.string s,e.val])) {w1 with heap:=w.heap.setIfInBounds g (.mapIter (some gm) wz (List.toArray (seen++[i])) wz)}:=by
   unfold execOp
   rw[ho]
   simp only[kQ,Sem.run_bind,hrun,Result.andThen_ok,Sem.run_pure,hkey]
  have hos:w1.os=w.os/\w1.tape=w.tape/\w1.output=w.output:=by rcases hw1 with rfl|rfl<;>exact⟨rfl,rfl,rfl⟩
  have hlt':g<w.heap.size:=(Array.getElem?_eq_some_iff.1 hgg).1
  rw[kQ] at hρ
  unfold Oper.wp
  rw[hex]
  have:=h3.write (w':={w1 with heap:=w.heap.setIfInBounds g (.mapIter (some gm) wz (List.toArray (seen++[i])) wz)}) (.Ah mid wz (seen++[i])) h2 hρ hos.1 hos.2.1 hos.2.2 (by simp) (λk _ hk=>by
   have:g≠k:=λe=>hk (by rw[e];rfl)
   simp[Array.getElem?_setIfInBounds,this]) (λρ' H' e' _=>⟨g,gm,rfl,e'.ME _ _ ZR,by simp[Array.getElem?_setIfInBounds,hlt']⟩)
  refine hN _ _ ρ _ _ this.1 this.2 ?_ (hk1 i s u hi hes')
  exact .kX _ [.bool true,.string s,e.val] U (λj u' y h6 h7=>by
   match j with
   |0=>simp at h6 h7;subst h6 h7;exact .v _
   |1=>simp at h6 h7;subst h6 h7;exact .v _
   |2=>simp at h6 h7;subst h6 h7;exact this.2.rep hval
   |j+3=>simp at h6)
theorem Does.TU{mid nn:Nat}{seen:List Nat}{i:Nat}(hg:o.guard=none)(ho:o.op=.entry x)(hx:ev T x=.ptr id 0)(h2:H id=some (.Ah mid nn (seen++[i])))(hm:H mid=some (.mp es))(hn:es.length=nn)(hi:es[i]? =some (s,u))(hk:K (.kX [.v (.string s),u]) H):Does P n ops o T H K:=by
 refine Does.val _ hg (λa w ρ h3 hr=>?_) hk
 have h5:=hr x
 rw[hx] at h5
 obtain⟨g,gm,kQ,hρ,ZR,hgg⟩:=VY h3 h2 h5
 obtain⟨_,hvm,gm',ml,wz,rfl,hgm,hkeys,Dy,D7⟩:=h3.ob mid _ hm
 rw[ZR] at hvm
 cases hvm
 have hlen:ml.size=es.length:=by
  have:=congrArg List.length hkeys
  rw[List.length_map,List.length_map] at this
  exact this
 have hclk:wz=nn:=by rw[D7.2,hlen,hn]
 subst hclk
 have hil:i<ml.size:=by rw[hlen];exact(List.getElem?_eq_some_iff.1 hi).1
 have hie:ml[i]? =some ml[i]:=Array.getElem?_eq_getElem hil
 have hkey:ml[i].key=.string s:=by
  have:=congrArg (λl=>l[i]?) hkeys
  simp only[List.getElem?_map,hi,Option.map_some] at this
  rw[Array.getElem?_toList,hie] at this
  simpa using this
 have hval:=Dy.2 i u ml[i].val (by simp[List.getElem?_map,hi]) (by simp[List.getElem?_map,hie])
 have hfind:ml.find? (λe=>e.born==i)=some ml[i]:=by
  rw[Array.find?_eq_some_iff_getElem]
  refine⟨by simp[D7.1 i _ hie],i,hil,rfl,λj hj=>?_⟩
  have:=D7.1 j _ (Array.getElem?_eq_getElem (by omega))
  simp[this];omega
 refine⟨.tuple #[.string s,ml[i].val],?_,.kX _ [.string s,ml[i].val] U (λj u' y h6 h7=>?_)⟩
 ·unfold execOp
  rw[ho]
  have hb:(List.toArray (seen++[i])).back? =some i:=by simp
  simp only[kQ,Instr.entry,getObj,Sem.run_bind,Sem.run,hgg,hgm,Result.andThen,hb,bne_self_eq_false,Bool.false_eq_true,if_false,hfind,hkey]
  rfl
 ·match j with
  |0=>simp at h6 h7;subst h6 h7;exact .v _
  |1=>simp at h6 h7;subst h6 h7;exact hval
  |j+2=>simp at h6
theorem D.rgm{e mid:Nat}{K:AV->List (Nat×Ob)->Prop}(k:Nat)(ht:D6 P t=some e)(hx:aW l x=some (.mpr mid))(h2:I[k]? =some (mid,.mp es))(hk:∀id,K (.ptr id 0) ((id,.Ah mid es.length [])::I)):DS P n ops H0 ⟨dst,.range t x,ty,ps,af,none⟩ l I K:=
 λay=>Does.TT U U ht (aG hx) (ay.at_ h2) λid hid=>⟨(id,.Ah mid es.length [])::I,rfl,.cons hid ay,hk id⟩
theorem D.nxm{mid nn:Nat}{seen:List Nat}{K:AV->List (Nat×Ob)->Prop}(k km:Nat)(hx:aW l x=some (.ptr id 0))(h2:I[k]? =some (id,.Ah mid nn seen))(hm:I[km]? =some (mid,.mp es))(hn:es.length=nn)
 (hk0:(∀i,i<nn->i∈seen)->K (.kX [.v (.bool false)]) I) (hk1:∀i s u,i∉seen->es[i]? =some (s,u)->K (.kX [.v (.bool true),.v (.string s),u]) (I.set k (id,.Ah mid nn (seen++[i])))):DS P n ops H0 ⟨dst,.next x false,ty,ps,af,none⟩ l I K:=λay=>
 Does.VZ U U (aG hx) (ay.at_ h2) (ay.at_ hm) hn (λh=>⟨_,rfl,ay,hk0 h⟩) λi s u hi he=>⟨_,(ay.ku _ h2).1,(ay.ku _ h2).2,hk1 i s u hi he⟩
theorem Z.ent{mid nn i:Nat}{seen:List Nat}(k km:Nat)(hx:aW l x=some (.ptr id 0))(h2:I[k]? =some (id,.Ah mid nn (seen++[i])))(hm:I[km]? =some (mid,.mp es))(hn:es.length=nn)(hi:es[i]? =some (s,u)):QS P n ops H0 ⟨dst,.entry x,ty,ps,af,none⟩ l I (.kX [.v (.string s),u]):=λay=>Does.TU U U (aG hx) (ay.at_ h2) (ay.at_ hm) hn hi ⟨rfl,rfl⟩
end
end
end Go.iG
end
section
namespace Go.Proofs.YtonpfomjoiaacaaGreatDoor
open Go Go.iG Go.RowKit
def zT:List ByteArray:=[⟨#[97]⟩,⟨#[98]⟩,⟨#[109,101,109,98,101,114,115,104,105,112]⟩,⟨#[117,115,101,114,115]⟩,⟨#[195,169]⟩,⟨#[101,118,101,110,116,115]⟩,⟨#[120]⟩,⟨#[116,121,112,101]⟩]
theorem ZT:∀s∈zT,s.size<=4000000:=by decide
def D8(b1:Int)(q:Nat):Nat:=((b1.tdiv 4+3*(q:Int)).tmod 8).toNat
def oN(b1:Int)(kids:List V):Nat->V
 |0=> .mk 5 0 ⟨#[]⟩ [] []
 |q+1=>aQ (oN b1 kids q) (zT.getD (D8 b1 q) ⟨#[]⟩) (kids.getD q zeroV)
def mQ(b1:Int)(l:List V):Nat:=min (b1.tmod 4).toNat l.length
def dG(b1:Int)(l:List V):List V:=l.drop (l.length-mQ b1 l)
def Dz(b0 b1:Int)(t:ByteArray)(l:List V):Nat×V:=
 if b0.tmod 12=0 then(l.length,.mk 1 (b1.tmod 2) ⟨#[]⟩ [] [])
 else if b0.tmod 12=1\/b0.tmod 12=2\/b0.tmod 12=3 then(l.length,fu (b1-100))
 else if b0.tmod 12=4 then(l.length,fu (9007199254740991-b1.tmod 2))
 else if b0.tmod 12=5\/b0.tmod 12=6 then(l.length,dz (if 0<=RN t then⟨#[122]⟩ else t))
 else if b0.tmod 12=7 then(l.length-mQ b1 l,.mk 4 0 ⟨#[]⟩ [] (dG b1 l))
 else if b0.tmod 12=8\/b0.tmod 12=9\/b0.tmod 12=10 then(l.length-mQ b1 l,oN b1 (dG b1 l) (dG b1 l).length)
 else(l.length,zeroV)
def NL(c:List Int)(j:Nat)(l:List V):List V:=
 l.take (Dz (c.getD j 0) (c.getD (j+1) 0) (textOf ((c.take (min c.length (j+3))).drop j)) l).1++[(Dz (c.getD j 0) (c.getD (j+1) 0) (textOf ((c.take (min c.length (j+3))).drop j)) l).2]
def oO(c:List Int):Nat->List V
 |0=>[]
 |n+1=>NL c (2*n) (oO c n)
def valOf(c:List Int):V:=.mk 4 0 ⟨#[]⟩ [] (oO c (min (c.length/2) 30))
theorem tK{α:Type}{l:List α}{i:Nat}{a b:α}(h:b∈eB l i a):b∈l\/b=a:=by
 unfold eB at h
 rcases List.mem_append.1 h with h|h
 ·exact .inl (List.mem_of_mem_take h)
 ·rcases List.mem_cons.1 h with h|h
  ·exact .inr h
  ·exact .inl (List.mem_of_mem_drop h)
theorem Qr{x:V}{key:ByteArray}{y:V}{s:ByteArray}(h:s∈(aQ x key y).ks):s∈(fw x).ks\/s=key:=by
 unfold aQ at h
 split at h
 ·rw[zl] at h;exact .inl (List.mem_of_mem_take h)
 ·rw[zl] at h
  rcases tK h with h|h
  ·exact .inl (List.mem_of_mem_take h)
  ·exact .inr h
theorem uX{x:V}{key:ByteArray}{y v:V}(h:v∈(aQ x key y).vs):v∈(fw x).vs\/v=y:=by
 unfold aQ at h
 split at h
 ·rw[Af] at h
  rcases List.mem_or_eq_of_mem_set h with h|h
  ·exact .inl (List.mem_of_mem_take h)
  ·exact .inr h
 ·rw[Af] at h
  rcases tK h with h|h
  ·exact .inl (List.mem_of_mem_take h)
  ·exact .inr h
theorem uY(x:V)(key:ByteArray)(y:V):(aQ x key y).ks.length<=(fw x).ks.length+1/\(aQ x key y).vs.length<=(fw x).vs.length+1/\(aQ x key y).k=5:=by
 have hk:(fw x).k=5:=by unfold fw;split<;>first|assumption|rfl
 have hc:(cutV (fw x)).ks.length<=(fw x).ks.length/\(cutV (fw x)).vs.length<=(fw x).vs.length:=by simp only[cutV,zl,Af,List.length_take];omega
 have h1:=l5 (cutV (fw x)).ks key
 unfold aQ
 split
 ·simp only[zl,Af,vk,List.length_set];omega
 ·simp only[zl,Af,vk]
  rw[dA _ _ _ h1,dA _ _ _ (by rw[<-wS];exact h1)];omega
theorem Fits.of{x:V}(h1:x.ks.length<=1000000)(h2:x.vs.length<=1000000)(h:∀y∈x.vs,Fits y):Fits x:=by
 obtain⟨k,n,t,ks,vs⟩:=x
 exact .mk k n t ks vs h1 h2 h
theorem yh(b1:Int)(kids:List V)(hk:∀x∈kids,Fits x):∀q,(oN b1 kids q).k=5/\(oN b1 kids q).ks.length<=q/\(oN b1 kids q).vs.length<=q/\(∀s∈(oN b1 kids q).ks,s.size<=4000000)/\(∀v∈(oN b1 kids q).vs,Fits v)
 |0=>⟨rfl,Nat.le_refl _,Nat.le_refl _,(by intro s h;cases h),(by intro v h;cases h)⟩
 |q+1=>by
  obtain⟨h0,h1,h2,h3,h4⟩:=yh b1 kids hk q
  have e:fw (oN b1 kids q)=oN b1 kids q:=by unfold fw;rw[if_pos h0]
  obtain⟨w1,w2,w3⟩:=uY (oN b1 kids q) (zT.getD (D8 b1 q) ⟨#[]⟩) (kids.getD q zeroV)
  rw[e] at w1 w2
  refine⟨w3,by show(aQ _ _ _).ks.length<=_;omega,by show(aQ _ _ _).vs.length<=_;omega,λs hs=>?_,λv hv=>?_⟩
  ·rcases Qr hs with h|h
   ·rw[e] at h;exact h3 s h
   ·subst h
    by_cases hi:D8 b1 q<zT.length
    ·exact ZT _ (fI hi)
    ·simp only[List.getD,List.getElem?_eq_none (Nat.le_of_not_lt hi)];decide
  ·rcases uX hv with h|h
   ·rw[e] at h;exact h4 v h
   ·subst h
    by_cases hi:q<kids.length
    ·exact hk _ (fI hi)
    ·simp only[List.getD,List.getElem?_eq_none (Nat.le_of_not_lt hi)];exact .mk _ _ _ _ _ (by decide) (by decide) (by simp)
theorem yj(b1:Int)(kids:List V)(hk:∀x∈kids,Fits x)(q:Nat)(hq:q<=1000000):Fits (oN b1 kids q):=by
 obtain⟨_,h1,h2,_,h4⟩:=yh b1 kids hk q
 exact Fits.of (by omega) (by omega) h4
theorem nQ:Fits zeroV:=.mk _ _ _ _ _ (by decide) (by decide) (by simp)
theorem tL(k n:Int)(t:ByteArray):Fits (.mk k n t [] []):=.mk _ _ _ _ _ (by simp) (by simp) (by simp)
theorem NM(b0 b1:Int)(t:ByteArray)(l:List V)(hl:l.length<=1000)(h:∀x∈l,Fits x):Fits (Dz b0 b1 t l).2/\(Dz b0 b1 t l).1<=l.length:=by
 have hk:∀x∈dG b1 l,Fits x:=λx hx=>h x (List.mem_of_mem_drop hx)
 have hkl:(dG b1 l).length<=l.length:=by unfold dG;rw[List.length_drop];omega
 unfold Dz
 repeat' split
 ·exact⟨tL _ _ _,Nat.le_refl _⟩
 ·exact⟨tL _ _ _,Nat.le_refl _⟩
 ·exact⟨tL _ _ _,Nat.le_refl _⟩
 ·exact⟨tL _ _ _,Nat.le_refl _⟩
 ·exact⟨tL _ _ _,Nat.le_refl _⟩
 ·exact⟨.mk _ _ _ _ _ (by simp) (by omega) hk,Nat.sub_le _ _⟩
 ·exact⟨yj _ _ hk _ (by omega),Nat.sub_le _ _⟩
 ·exact⟨nQ,Nat.le_refl _⟩
theorem En(c:List Int):∀n,n<=100->(oO c n).length<=n/\∀x∈oO c n,Fits x
 |0,_=>⟨Nat.le_refl _,(by intro x h;cases h)⟩
 |n+1,hn=>by
  obtain⟨h1,h2⟩:=En c n (by omega)
  have h3:=NM (c.getD (2*n) 0) (c.getD (2*n+1) 0) (textOf ((c.take (min c.length (2*n+3))).drop (2*n))) (oO c n) (by omega) h2
  refine⟨?_,λx hx=>?_⟩
  ·show(NL c (2*n) (oO c n)).length<=_
   unfold NL
   rw[List.length_append,List.length_take];simp only[List.length_singleton];omega
  ·rcases List.mem_append.1 hx with h|h
   ·exact h2 x (List.mem_of_mem_take h)
   ·rw[List.mem_singleton.1 h];exact h3.1
end Go.Proofs.YtonpfomjoiaacaaGreatDoor
end
