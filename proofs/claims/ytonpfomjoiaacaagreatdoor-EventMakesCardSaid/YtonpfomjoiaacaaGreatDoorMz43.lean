/- A part of the proof. -/
import Derived.Test.YtonpfomjoiaacaaGreatDoorMz42
import Derived.Laws.RangeString
set_option maxRecDepth 100000
set_option maxHeartbeats 4000000
set_option linter.unusedSectionVars false
set_option linter.unusedVariables false
set_option linter.unusedSimpArgs false
section
namespace Go.Proofs.YtonpfomjoiaacaaGreatDoor
open Go Go.fT Go.RowKit
theorem gy:dY Tryz.prog 28=some (true,15):=by kernel_rfl
theorem z28:(Tryz.prog.info? 28).map (·.zero)=some (some (.agg #[.string ⟨#[]⟩,.string ⟨#[]⟩,.string ⟨#[]⟩,.bool false,.string ⟨#[]⟩,.string ⟨#[]⟩,.slice none 0 0,.slice none 0 0,.int .i64 0,.int .i64 0,.int .i64 0,.int .i64 0,.string ⟨#[]⟩,.slice none 0 0,.slice none 0 0])):=by kernel_rfl
theorem wY:dE Tryz.prog 28 0=some 0:=by kernel_rfl
theorem Fz:dE Tryz.prog 28 1=some 1:=by kernel_rfl
theorem wZ:dE Tryz.prog 28 2=some 2:=by kernel_rfl
theorem kW:dE Tryz.prog 28 3=some 3:=by kernel_rfl
theorem FB:dE Tryz.prog 28 4=some 4:=by kernel_rfl
theorem FC:dE Tryz.prog 28 5=some 5:=by kernel_rfl
theorem vF:dE Tryz.prog 28 6=some 6:=by kernel_rfl
theorem vG:dE Tryz.prog 28 7=some 7:=by kernel_rfl
theorem FD:dE Tryz.prog 28 8=some 8:=by kernel_rfl
theorem FE:dE Tryz.prog 28 9=some 9:=by kernel_rfl
theorem tY:dE Tryz.prog 28 10=some 10:=by kernel_rfl
theorem Va:dE Tryz.prog 69 0=some 0:=by kernel_rfl
theorem iC:dE Tryz.prog 69 1=some 5:=by kernel_rfl
theorem ft28_0:Go.fT.rH Tryz.prog 28 0=some (0,false,1):=by kernel_rfl
theorem Ch:ny Tryz.prog 28=some ([.string ⟨#[]⟩,.string ⟨#[]⟩,.string ⟨#[]⟩,.bool false,.string ⟨#[]⟩,.string ⟨#[]⟩,.slice none 0 0,.slice none 0 0,.int .i64 0,.int .i64 0,.int .i64 0,.int .i64 0,.string ⟨#[]⟩,.slice none 0 0,.slice none 0 0],[(0,1),(1,1),(2,1),(3,1),(4,1),(5,1),(6,1),(7,1),(8,1),(9,1),(10,5)]):=by kernel_rfl
theorem Sb:ny Tryz.prog 69=some ([.int .i64 0,.int .i64 0,.string ⟨#[]⟩,.slice none 0 0,.slice none 0 0,.bool false],[(0,5),(5,1)]):=by kernel_rfl
theorem Gc:∃fs,Tryz.prog.underlying 28=some (.struct fs):=⟨_,Tryz.underlying28⟩
theorem Gd:(Tryz.prog.info? 28).map (·.size)=some 15:=by kernel_rfl
def zP(s:ByteArray)(c:Int):Bool:=decide (s.size≠0)&&eG s ((0:Nat):Int)==c
theorem Sc{a b:Int}(ha:0<=a/\a<256)(hb:0<=b/\b<256):((aN a).toList==(aN b).toList)=(a==b):=by
 by_cases h:a=b
 ·rw[h];simp
 ·rw[iy λe=>h ?_,show(a==b)=false by simpa using h]
  have:=congrArg (λs=>eG s ((0:Nat):Int)) (fM e)
  simp only[wE ha,wE hb] at this
  exact this
theorem MU(s:ByteArray)(c:Int)(hc:0<=c/\c<256)(H:Hp):au Tryz.prog 208 [.v (.string s),.v (.string (aN c))] H (bz H (.v (.bool (zP s c)))):=by
 have hz:(aN c).size=1:=rfl
 have hb:=oN s ((0:Nat):Int)
 unfold zP
 generalize hB:aN c=B at*
 by_cases h0:s.size=0
 ·rw[decide_eq_false (by omega:¬s.size≠0),Bool.false_and]
  refine aF (n:=18) (H0:=H) (I:=[]) Tryz.func208 (by kernel_rfl) U (by rw[Tryz.ntmps208];rfl) .nil ?_
  refine S.sq (S.rg ?_)
  refine S.qu (Z.as U) ?_
  refine US.nil (UQ.then (S.sq (S.rg ?_)))
  refine S.qu (Z.mv U) ?_
  refine S.qu (Z.wP Tryz.underlying9 U) ?_
  refine S.qu (Z.mv U) ?_
  refine S.qu (Z.wP Tryz.underlying9 U) ?_
  refine S.qu (Z.bi U U U) ?_
  refine S.qu (Z.mv U) ?_
  refine S.tD 10 (λxH=>?_) (λxH=>?_)
  omega
  refine S.qu (Z.of) ?_
  refine S.qu (Z.of) ?_
  refine S.qu (Z.of) ?_
  refine S.qu (Z.of) ?_
  refine S.qu (Z.of) ?_
  refine S.qu (Z.of) ?_
  refine S.qu (Z.pick U U) ?_
  refine S.qu (Z.as U) ?_
  refine US.nil (UQ.then (UW.ret ?_))
  refine S.bK (λ_=>ak U U) ?_
  rfl
 ·have he:s.extract 0 1=aN (eG s ((0:Nat):Int)):=qm s 0 (by omega)
  have hi:((aN (eG s ((0:Nat):Int))).toList==B.toList)=(eG s ((0:Nat):Int)==c):=by rw[<-hB];exact Sc hb hc
  rw[decide_eq_true (by omega:s.size≠0),Bool.true_and]
  refine aF (n:=18) (H0:=H) (I:=[]) Tryz.func208 (by kernel_rfl) U (by rw[Tryz.ntmps208];rfl) .nil ?_
  focus
   refine S.sq (S.rg ?_)
   refine S.qu (Z.as U) ?_
   refine US.nil (UQ.then (S.sq (S.rg ?_)))
   refine S.qu (Z.mv U) ?_
   refine S.qu (Z.wP Tryz.underlying9 U) ?_
   refine S.qu (Z.mv U) ?_
   refine S.qu (Z.wP Tryz.underlying9 U) ?_
   refine S.qu (Z.bi U U U) ?_
   refine S.qu (Z.mv U) ?_
   refine S.tD 10 (λxH=>?_) (λxH=>?_)
   rotate_left
   omega
   refine S.qu (Z.on (Z.mv U)) ?_
   refine S.qu (Z.on (Z.mv U)) ?_
   refine S.qu (Z.on (Z.wP Tryz.underlying9 U)) ?_
   refine S.qu (Z.on (Z.eq (u':=.v (.string (aN (eG s ((0:Nat):Int))))) (Z.slt (p:=s) (m:=0) (m':=1) Tryz.underlying9 U (.hi (a:=1) (by rw[hz];rfl)) (by omega) (by omega)) (by rw[he]))) ?_
   refine S.qu (Z.on (Z.mv U)) ?_
   refine S.qu (Z.on (Z.eq (u':=.v (.bool (eG s ((0:Nat):Int)==c))) (Z.bs U U U) (by rw[hi]))) ?_
   refine S.qu (Z.pick U U) ?_
   refine S.qu (Z.as U) ?_
   refine US.nil (UQ.then (UW.ret ?_))
   refine S.bK (λ_=>ak U U) ?_
   rfl
theorem Kh(s:ByteArray)(c:Int)(hc:0<=c/\c<256)(H:Hp):au Tryz.prog 182 [.v (.string s),.v (.string (aN c))] H (bz H (.kM [.v (.string (if zP s c=true then s.extract 1 s.size else s)),.v (.bool (zP s c))])):=by
 have hz:(aN c).size=1:=rfl
 have hp:=MU s c hc
 have hs:zP s c=true->1<=s.size:=λh=>by
  unfold zP at h
  by_cases h0:s.size=0
  ·rw[decide_eq_false (by omega:¬s.size≠0)] at h;cases h
  ·omega
 generalize aN c=B at*
 cases hb:zP s c with
 |true=>
  have hs:=hs hb
  rw[hb] at hp
  refine aF (n:=15) (H0:=H) (I:=[]) Tryz.func182 (by kernel_rfl) U (by rw[Tryz.ntmps182];rfl) .nil ?_
  refine S.sq (S.rg ?_)
  refine S.qu (Z.as U) ?_
  refine S.qu (Z.as U) ?_
  refine US.nil (UQ.then (S.sq (S.sq (S.rg ?_))))
  refine S.qu (Z.mv U) ?_
  refine S.qu (Z.mv U) ?_
  refine S.qu (Z.call U U (λH=>hp H)) ?_
  refine S.qu (Z.not U) ?_
  refine US.nil (UQ.then ?_)
  refine S.cF U U ?_
  refine UW.skip (UQ.then (S.sq (S.rg ?_)))
  refine S.qu (Z.mv U) ?_
  refine S.qu (Z.mv U) ?_
  refine S.qu (Z.wP Tryz.underlying9 U) ?_
  refine S.qu (Z.slt (p:=s) (m:=1) (m':=s.size) Tryz.underlying9 U (.lo (a:=1) (by rw[hz];rfl)) (by omega) (by omega)) ?_
  refine S.qu (Z.as U) ?_
  refine S.qu (Z.as U) ?_
  refine US.nil (UQ.then (UW.ret ?_))
  refine S.bK (λhd=>fJ U (bE U) (bE U)) ?_
  rfl
 |false=>
  rw[hb] at hp
  refine aF (n:=15) (H0:=H) (I:=[]) Tryz.func182 (by kernel_rfl) U (by rw[Tryz.ntmps182];rfl) .nil ?_
  refine S.sq (S.rg ?_)
  refine S.qu (Z.as U) ?_
  refine S.qu (Z.as U) ?_
  refine US.nil (UQ.then (S.sq (S.sq (S.rg ?_))))
  refine S.qu (Z.mv U) ?_
  refine S.qu (Z.mv U) ?_
  refine S.qu (Z.call U U (λH=>hp H)) ?_
  refine S.qu (Z.not U) ?_
  refine US.nil (UQ.then ?_)
  refine S.cT U U ?_
  refine S.sq (S.rg ?_)
  refine S.qu (Z.mv U) ?_
  refine S.qu (Z.as U) ?_
  refine S.qu (Z.as U) ?_
  refine US.nil (UQ.then (UW.ret (UQ.ax ?_)))
  refine S.bK (λhd=>fJ U (bE U) (bE U)) ?_
  rfl
theorem vH(s:ByteArray)(c:Int)(hc:0<=c/\c<256)(H:Hp):au Tryz.prog 135 [.v (.string s),.v (.string (aN c))] H (bz H (.kM [.v (.string (if zP s c=true then s.extract 1 s.size else s)),.v (.bool (zP s c))])):=by
 have hp:=Kh s c hc
 generalize aN c=B at*
 refine aF (n:=11) (H0:=H) (I:=[]) Tryz.func135 (by kernel_rfl) U (by rw[Tryz.ntmps135];rfl) .nil ?_
 refine S.sq (S.rg ?_)
 refine S.qu (Z.as U) ?_
 refine S.qu (Z.as U) ?_
 refine US.nil (UQ.then (S.sq (S.rg ?_)))
 refine S.qu (Z.mv U) ?_
 refine S.qu (Z.mv U) ?_
 refine S.qu (Z.call U U (λH=>hp H)) ?_
 refine S.qu (Z.ex U U) ?_
 refine S.qu (Z.ex U U) ?_
 refine S.qu (Z.as U) ?_
 refine S.qu (Z.as U) ?_
 refine US.nil (UQ.then (UW.ret ?_))
 refine S.bK (λhd=>fJ U (bE U) (bE U)) ?_
 rfl
theorem Vb:(List.range 128).all (λr:Nat=>Lib.indexByte lH.data.toList r.toUInt8==ni (r:Int))=true:=by kernel_rfl
theorem zQ(r:Int)(h0:0<=r)(h1:r<128)(H:Hp):au Tryz.prog 187 [.v (.string lH),.v (.int .i32 r)] H (bz H (.v (.int .i64 (ni r)))):=
 au.uJ ⟨_,Tryz.func187,by kernel_rfl,by kernel_rfl⟩ λρ w vals hh hr=>by
  obtain⟨hl,hr⟩:=hr
  match vals,hl,hr with
  |[a,b],hl,hr=>
   have e1:=aS (hr 0 _ _ U U)
   have e2:=aS (hr 1 _ _ U U)
   subst e1 e2
   refine(Tryz.strings_IndexRune_ascii lH r w h0 h1).mono ?_
   rintro e w' ⟨he,rfl⟩
   have:=List.all_eq_true.1 Vb r.toNat (List.mem_range.2 (by omega))
   rw[Int.toNat_of_nonneg h0] at this
   have h2:Lib.indexByte lH.data.toList r.toNat.toUInt8=ni r:=by simpa using this
   rw[h2] at he
   exact⟨he,Below.refl _ _⟩
theorem Ho(s:ByteArray)(i:Nat)(h:i<s.size)(ha:eG s (i:Int)<128):((Utf8.decode s i).1:Int)=eG s (i:Int)/\(Utf8.decode s i).2=1:=by
 have e:eG s (i:Int)=((s[i]'h).toNat:Int):=by unfold eG;rw[dif_pos (by simpa using h)];rfl
 have:=decode_ascii s i h (by omega)
 rw[this,e]
 exact⟨rfl,rfl⟩
theorem Hq(i:Nat):(i % 4=0->eU (i+1)=eU i+6/\eU i=0)/\(¬i % 4=0->eU (i+1)+8=eU i+6):=by
 unfold eU
 obtain⟨q,r,hr,rfl⟩:∃q r,r<4/\i=4*q+r:=⟨i/4,i % 4,by omega,by omega⟩
 match r,hr with
 |0,_=>omega
 |1,_=>omega
 |2,_=>omega
 |3,_=>omega
theorem MV(i:Nat):eU i<=6:=by unfold eU;omega
def backP:Option (List Int)->AV
 |some l=> .kM [.sl (bf l),.v (.bool true)]
 |none=> .kM [.v (.slice none 0 0),.v (.bool false)]
theorem YV{s:ByteArray}(h:Qv s=false):Fv s=none:=by unfold Fv;rw[if_neg (by rw[h];decide)]
theorem or6(a c:Int)(ha:0<=a)(ha2:a<16777216)(hc:0<=c)(hck:c<64):IntKind.i64.wrap (BitVec.ofInt IntKind.i64.bits (a*64)|||BitVec.ofInt IntKind.i64.bits c).toNat=a*64+c:=by
 obtain⟨a,rfl⟩:=Int.eq_ofNat_of_zero_le ha
 obtain⟨c,rfl⟩:=Int.eq_ofNat_of_zero_le hc
 have h1:((a:Int)*64)=((a*2^6:Nat):Int):=by simp
 have h2:c<2^6:=by omega
 rw[h1]
 rw[show IntKind.i64.bits=64 from rfl,BitVec.toNat_or,BitVec.toNat_ofInt,BitVec.toNat_ofInt]
 have e1:(((a*2^6:Nat):Int)%((2^64:Nat):Int)).toNat=a*2^6:=by omega
 have e2:(((c:Nat):Int)%((2^64:Nat):Int)).toNat=c:=by omega
 rw[e1,e2,<-Nat.shiftLeft_eq,<-Nat.shiftLeft_add_eq_or_of_lt h2,Nat.shiftLeft_eq,IntWalk.i64_in _ (by omega)]
 omega
theorem andB(a m:Int)(b:Nat)(hb:m=((2^b-1:Nat):Int))(hm:2^b<=65536)(ha:0<=a)(ha2:a<16777216):IntKind.i64.wrap (BitVec.ofInt IntKind.i64.bits a&&&BitVec.ofInt IntKind.i64.bits m).toNat=((a.toNat % 2^b:Nat):Int):=by
 obtain⟨a,rfl⟩:=Int.eq_ofNat_of_zero_le ha
 rw[hb,show IntKind.i64.bits=64 from rfl,BitVec.toNat_and,BitVec.toNat_ofInt,BitVec.toNat_ofInt]
 have e1:(((a:Nat):Int)%((2^64:Nat):Int)).toNat=a:=by omega
 have e2:(((2^b-1:Nat):Int)%((2^64:Nat):Int)).toNat=2^b-1:=by omega
 have hl:a % 2^b<=a:=Nat.mod_le _ _
 rw[e1,e2,Nat.and_two_pow_sub_one_eq_mod,IntWalk.i64_in _ (by omega)]
 rfl
theorem and16(a:Int)(ha:0<=a)(ha2:a<16777216):IntKind.i64.wrap (BitVec.ofInt IntKind.i64.bits a&&&BitVec.ofInt IntKind.i64.bits 65535).toNat=a % 65536:=by
 rw[andB a 65535 16 (by decide) (by decide) ha ha2,show(2:Nat)^16=65536 from rfl]
 omega
theorem shl6(a:Int)(ha:0<=a)(ha2:a<65536):IntKind.i64.wrap (a*2^min (6:Int).toNat IntKind.i64.bits)=a*64:=by
 show IntKind.i64.wrap (a*2^6)=_
 rw[IntWalk.i64_in _ (by omega)];omega
theorem shrB(a:Int)(b:Nat)(hb:b<=6):a.fdiv (2^min ((b:Nat):Int).toNat IntKind.i64.bits)=a/2^b:=by
 have e:min ((b:Nat):Int).toNat IntKind.i64.bits=b:=by
  have:IntKind.i64.bits=64:=rfl
  omega
 have hp:(0:Int)<2^b:=Int.pow_pos (by decide)
 rw[e,Int.fdiv_eq_ediv_of_nonneg _ (by omega)]
theorem shlB:∀b:Nat,b<=6->IntKind.i64.wrap (1*2^min ((b:Nat):Int).toNat IntKind.i64.bits)=((2^b:Nat):Int)
 |0,_|1,_|2,_|3,_|4,_|5,_|6,_=>by decide
 |b+7,h=>by omega
theorem vI(s:ByteArray)(hs:s.size<=100000)(ha:pO s=true)(H:Hp):au Tryz.prog 139 [.v (.string s)] H (bz H (backP (Fv s))):=by
 have hab:=(wG s).1 ha
 refine aF (n:=48) (H0:=H) (I:=[]) Tryz.func139 (by kernel_rfl) U (by rw[Tryz.ntmps139];rfl) .nil ?_
 refine S.sq (S.rg ?_)
 refine S.qu (Z.as U) ?_
 refine S.qu (Z.as U) ?_
 refine US.nil (UQ.then (S.sq (S.rg ?_)))
 refine S.qu (Z.as U) ?_
 refine US.nil (UQ.then (S.sq (S.rg ?_)))
 refine S.qu (Z.as U) ?_
 refine S.qu (Z.as U) ?_
 refine US.nil (UQ.then (S.sq (S.sq (S.rg ?_))))
 refine S.qu (Z.mv U) ?_
 refine S.dd (D.rg Tryz.underlying9 U (λp11=>?_))
 refine US.kG 4 5 1 (by decide) U λid=>?_
 refine US.nil (UQ.then (UW.block ?_))
 refine S.loop (λx:Nat×Nat=>[(11,.ptr p11 0),(6,.v (.int .i64 (wW s x.1))),(5,.v (.int .i64 ((eU x.1:Nat):Int))),(4,.own x.2 0 (CG s x.1).length 1)]) (λx=>[(x.2,.row 5 1 (bf (CG s x.1))),(p11,.iter s x.1)]) (λx=>x.1<=s.size/\∀j,j<x.1->0<=ni (eG s (j:Int))) (λx=>s.size-x.1) (0,id) ⟨Nat.zero_le _,λj hj=>absurd hj (Nat.not_lt_zero _)⟩ ⟨rfl,rfl,rfl,rfl,trivial⟩ (.refl _) ?_
 rintro⟨i,id⟩ ⟨hi,hok⟩
 dsimp only at hi hok⊢
 have hpl:=Kb s i
 have hel:=bY (CG s i)
 have hpb:=pnV_bd s i
 have hbl:=MV i
 by_cases hlt:i<s.size
 ·obtain⟨hd1,hd2⟩:=Ho s i hlt (hab i hlt)
  have hbb:=oN s (i:Int)
  have ZK:=hab i hlt
  by_cases hneg:ni (eG s (i:Int))<0
  ·have hdec:Fv s=none:=YV (okS_no hlt hneg)
   rw[hdec]
   refine S.sq (S.rg ?_)
   refine S.dd (D.nx 1 U U (by omega) U ?_)
   rw[hd2]
   refine S.qu (Z.ex U U) ?_
   refine US.nil (UQ.then (S.sq ?_))
   refine S.cT U U ?_
   refine UW.skip (UQ.then (UW.block (S.sq (S.rg ?_))))
   refine S.qu (Z.eq (u':=.v (.int .i32 (eG s (i:Int)))) (Z.ex U U) (by rw[hd1])) ?_
   refine S.qu (Z.as U) ?_
   refine US.nil (UQ.then (S.sq (S.rg ?_)))
   refine S.qu (Z.mv U) ?_
   refine S.qu (Z.call U U (λH=>zQ _ hbb.1 ZK H)) ?_
   refine S.qu (Z.as U) ?_
   refine US.nil (UQ.then (S.sq (S.sq (S.rg ?_))))
   refine S.qu (Z.mv U) ?_
   refine S.qu (Z.bi U U U) ?_
   refine US.nil (UQ.then ?_)
   refine S.cT U (decide_eq_true (by omega)) ?_
   refine S.sq (S.rg ?_)
   refine S.qu (Z.as U) ?_
   refine S.qu (Z.as U) ?_
   refine US.nil (UQ.then (UW.ret (UQ.ax (UQ.aH (UQ.ax (UQ.aH (UQ.ax ?_)))))))
   refine S.bK (λhd=>fJ U (bE U) (bE U)) ?_
   rfl
  ·have hsb:=YL (eG s (i:Int))
   have hokn:∀j,j<i+1->0<=ni (eG s (j:Int)):=λj hj=>by
    rcases Nat.lt_succ_iff_lt_or_eq.1 hj with h|h
    ·exact hok j h
    ·rw[h];omega
   have hpn:wW s (i+1)=(wW s i*64+ni (eG s (i:Int)))% 65536:=rfl
   have hir:=zQ (eG s (i:Int)) hbb.1 ZK
   generalize ni (eG s (i:Int))=d at*
   have hs1:=shl6 (wW s i) hpb.1 hpb.2
   have hs2:=or6 (wW s i) d hpb.1 (by omega) (by omega) hsb.2
   have hs3:=and16 (wW s i*64+d) (by omega) (by omega)
   by_cases h4:i % 4=0
   ·have hbn:=(Hq i).1 h4
    have hpo:CG s (i+1)=CG s i:=by rw[CG,if_pos h4]
    refine S.sq (S.rg ?_)
    refine S.dd (D.nx 1 U U (by omega) U ?_)
    rw[hd2]
    refine S.qu (Z.ex U U) ?_
    refine US.nil (UQ.then (S.sq ?_))
    refine S.cT U U ?_
    refine UW.skip (UQ.then (UW.block (S.sq (S.rg ?_))))
    refine S.qu (Z.eq (u':=.v (.int .i32 (eG s (i:Int)))) (Z.ex U U) (by rw[hd1])) ?_
    refine S.qu (Z.as U) ?_
    refine US.nil (UQ.then (S.sq (S.rg ?_)))
    refine S.qu (Z.mv U) ?_
    refine S.qu (Z.call U U (λH=>hir H)) ?_
    refine S.qu (Z.as U) ?_
    refine US.nil (UQ.then (S.sq (S.sq (S.rg ?_))))
    refine S.qu (Z.mv U) ?_
    refine S.qu (Z.bi U U U) ?_
    refine US.nil (UQ.then ?_)
    refine S.cF U (decide_eq_false (by omega)) ?_
    refine UW.skip (UQ.then (S.sq (S.rg ?_)))
    refine S.qu (Z.mv U) ?_
    refine S.qu (Z.shl (r:=wW s i*64) U U (by decide) hs1) ?_
    refine S.qu (Z.mv U) ?_
    refine S.qu (Z.bi (vr:=.int .i64 (wW s i*64+d)) U U (congrArg (λz=>some (Value.int .i64 z)) hs2)) ?_
    refine S.qu (Z.bi (vr:=.int .i64 (wW s (i+1))) U U (congrArg (λz=>some (Value.int .i64 z)) (hs3.trans hpn.symm))) ?_
    refine S.qu (Z.as U) ?_
    refine US.nil (UQ.then (S.sq (S.rg ?_)))
    refine S.qu (Z.mv U) ?_
    refine S.qu (Z.add (r:=((eU (i+1):Nat):Int)) U U (by rw[IntWalk.i64_in _ (by omega)];omega)) ?_
    (rw[<-hpo])
    refine S.qu (Z.as U) ?_
    refine US.nil (UQ.then (S.sq (S.rg ?_)))
    refine S.qu (Z.mv U) ?_
    refine S.qu (Z.bi U U U) ?_
    refine US.nil (UQ.then ?_)
    refine S.cF U (decide_eq_false (by omega)) ?_
    refine UW.skip (UQ.aB ?_)
    refine S.back (i+1,id) ⟨rfl,rfl,rfl,rfl,trivial⟩ (.refl _) ?_ (by omega)
    all_goals exact⟨hlt,hokn⟩
   ·have hbn:=(Hq i).2 h4
    have hpo:CG s (i+1)=CG s i++[IntKind.u8.wrap (wW s (i+1)/2^eU (i+1))]:=by rw[CG,if_neg h4]
    have hs2':=AA (CG s i) (IntKind.u8.wrap (wW s (i+1)/2^eU (i+1)))
    rw[<-hpo] at hs2'
    have hl2:(CG s (i+1)).length=(CG s i).length+1:=by rw[hpo,List.length_append];rfl
    have hsh:=shrB (wW s (i+1)) (eU (i+1)) (MV _)
    have hab2:(bf (CG s i)).take (CG s i).length++[[.v (.int .u8 (IntKind.u8.wrap (wW s (i+1)/2^eU (i+1))))]]=bf (CG s (i+1)):=by rw[List.take_of_length_le (by omega),hs2']
    refine S.sq (S.rg ?_)
    refine S.dd (D.nx 1 U U (by omega) U ?_)
    rw[hd2]
    refine S.qu (Z.ex U U) ?_
    refine US.nil (UQ.then (S.sq ?_))
    refine S.cT U U ?_
    refine UW.skip (UQ.then (UW.block (S.sq (S.rg ?_))))
    refine S.qu (Z.eq (u':=.v (.int .i32 (eG s (i:Int)))) (Z.ex U U) (by rw[hd1])) ?_
    refine S.qu (Z.as U) ?_
    refine US.nil (UQ.then (S.sq (S.rg ?_)))
    refine S.qu (Z.mv U) ?_
    refine S.qu (Z.call U U (λH=>hir H)) ?_
    refine S.qu (Z.as U) ?_
    refine US.nil (UQ.then (S.sq (S.sq (S.rg ?_))))
    refine S.qu (Z.mv U) ?_
    refine S.qu (Z.bi U U U) ?_
    refine US.nil (UQ.then ?_)
    refine S.cF U (decide_eq_false (by omega)) ?_
    refine UW.skip (UQ.then (S.sq (S.rg ?_)))
    refine S.qu (Z.mv U) ?_
    refine S.qu (Z.shl (r:=wW s i*64) U U (by decide) hs1) ?_
    refine S.qu (Z.mv U) ?_
    refine S.qu (Z.bi (vr:=.int .i64 (wW s i*64+d)) U U (congrArg (λz=>some (Value.int .i64 z)) hs2)) ?_
    refine S.qu (Z.bi (vr:=.int .i64 (wW s (i+1))) U U (congrArg (λz=>some (Value.int .i64 z)) (hs3.trans hpn.symm))) ?_
    refine S.qu (Z.as U) ?_
    refine US.nil (UQ.then (S.sq (S.rg ?_)))
    refine S.qu (Z.mv U) ?_
    refine S.qu (Z.add (r:=((eU (i+1)+8:Nat):Int)) U U (by rw[IntWalk.i64_in _ (by omega)];omega)) ?_
    refine S.qu (Z.as U) ?_
    refine US.nil (UQ.then (S.sq (S.rg ?_)))
    refine S.qu (Z.mv U) ?_
    refine S.qu (Z.bi U U U) ?_
    refine US.nil (UQ.then ?_)
    refine S.cT U (decide_eq_true (by omega)) ?_
    refine S.sq (S.rg ?_)
    refine S.qu (Z.mv U) ?_
    refine S.qu (Z.sub (r:=((eU (i+1):Nat):Int)) U U (by rw[IntWalk.i64_in _ (by omega)];omega)) ?_
    refine S.qu (Z.as U) ?_
    refine US.nil (UQ.then (S.rg ?_))
    refine S.qu (Z.mv U) ?_
    refine S.qu (Z.mv U) ?_
    refine S.qu (Z.mv U) ?_
    refine S.qu (Z.shr (r:=wW s (i+1)/2^eU (i+1)) U U (by omega) hsh) ?_
    refine S.qu (Z.cv (r:=IntKind.u8.wrap (wW s (i+1)/2^eU (i+1))) Tryz.underlying5 U U (by kernel_rfl)) ?_
    refine S.qu (Z.bl iK U U (bA U)) ?_
    refine S.dd (D.apl 0 (CG s (i+1)).length iK U U (by omega) U (.sl (j3 U)) (by first|omega|(simp;omega)) hab2 hl2.symm (λp36=>?_))
    refine S.qu (Z.as U) ?_
    refine US.nil (UQ.aB ?_)
    refine S.back (i+1,p36) ⟨rfl,rfl,rfl,rfl,trivial⟩ (.refl _) ?_ (by omega)
    all_goals exact⟨hlt,hokn⟩
 ·have hie:i=s.size:=by omega
  have hoks:Qv s=true:=U1 λj hj=>hok j (by omega)
  have hdp:Fv s=if eU s.size=6\/wW s s.size % 2^eU s.size≠0 then none else some (CG s s.size):=by unfold Fv;rw[if_pos hoks]
  rw[<-hie] at hdp
  by_cases h6:eU i=6
  ·rw[if_pos (.inl h6)] at hdp
   rw[hdp]
   focus
    refine S.sq (S.rg ?_)
    refine S.dd (D.nxo 1 U U (by omega) ?_)
    refine S.qu (Z.ex U U) ?_
    refine US.nil (UQ.then (S.sq ?_))
    refine S.cF U U ?_
    refine UW.exit (UQ.pass (UQ.pass (UQ.here (UQ.then (S.sq (S.sq (S.rg ?_)))))))
    refine S.qu (Z.mv U) ?_
    refine S.qu (Z.bi U U U) ?_
    refine S.qu (Z.mv U) ?_
    refine S.tD 39 (λhc39=>?_) (λhc39=>?_)
    rotate_left
    omega
    refine S.qu (Z.of) ?_
    refine S.qu (Z.of) ?_
    refine S.qu (Z.of) ?_
    refine S.qu (Z.of) ?_
    refine S.qu (Z.of) ?_
    refine S.qu (Z.of) ?_
    refine S.qu (Z.pick U U) ?_
    refine US.nil (UQ.then ?_)
    refine S.cT U U ?_
    refine S.sq (S.rg ?_)
    refine S.qu (Z.as U) ?_
    refine S.qu (Z.as U) ?_
    refine US.nil (UQ.then (UW.ret (UQ.ax ?_)))
    refine S.bK (λhd=>fJ U (bE U) (bE U)) ?_
    rfl
  ·have hand:=andB (wW s i) ((2^eU i-1:Nat):Int) (eU i) U (Nat.le_trans (Nat.pow_le_pow_right (by decide) hbl) (by decide)) hpb.1 (by omega)
   have hsl:=shlB (eU i) hbl
   have hp1:1<=2^eU i:=Nat.one_le_two_pow
   have hp2:2^eU i<=64:=Nat.le_trans (Nat.pow_le_pow_right (by decide) hbl) (by decide)
   have hmod:wW s i % 2^eU i=(((wW s i).toNat % 2^eU i:Nat):Int):=by
    rw[Int.natCast_emod,Int.toNat_of_nonneg hpb.1];simp
   have hb6:eU i<6:=by omega
   generalize hq:(((wW s i).toNat % 2^eU i:Nat):Int)=q at*
   by_cases hz:q=0
   ·rw[if_neg (by rw[not_or,hmod,Decidable.not_not];exact⟨h6,hz⟩)] at hdp
    rw[hdp]
    refine S.sq (S.rg ?_)
    refine S.dd (D.nxo 1 U U (by omega) ?_)
    refine S.qu (Z.ex U U) ?_
    refine US.nil (UQ.then (S.sq ?_))
    refine S.cF U U ?_
    refine UW.exit (UQ.pass (UQ.pass (UQ.here (UQ.then (S.sq (S.sq (S.rg ?_)))))))
    refine S.qu (Z.mv U) ?_
    refine S.qu (Z.bi U U U) ?_
    refine S.qu (Z.mv U) ?_
    refine S.tD 39 (λhc39=>?_) (λhc39=>?_)
    omega
    refine S.qu (Z.on (Z.mv U)) ?_
    refine S.qu (Z.on (Z.mv U)) ?_
    refine S.qu (Z.on (Z.shl (r:=((2^eU i:Nat):Int)) U U (by omega) hsl)) ?_
    refine S.qu (Z.on (Z.sub (r:=((2^eU i-1:Nat):Int)) U U (by rw[IntWalk.i64_in _ (by omega)];omega))) ?_
    refine S.qu (Z.on (Z.bi (vr:=.int .i64 q) U U (congrArg (λz=>some (Value.int .i64 z)) hand))) ?_
    refine S.qu (Z.on (Z.bi U U U)) ?_
    refine S.qu (Z.pick U U) ?_
    refine US.nil (UQ.then ?_)
    refine S.cF U (nL (by omega)) ?_
    refine UW.skip (UQ.then (S.sq (S.rg ?_)))
    refine S.qu (Z.mv U) ?_
    refine US.gG 47 0 (rs:=bf (CG s i)) U U (by omega) (by rw[List.drop_zero];exact List.take_of_length_le (by omega)) ?_
    refine S.qu (Z.as U) ?_
    refine S.qu (Z.as U) ?_
    refine US.nil (UQ.then (UW.ret ?_))
    refine S.bK (λhd=>fJ U (bE U) (bE U)) ?_
    rfl
   ·rw[if_pos (.inr (by rw[hmod];exact hz))] at hdp
    rw[hdp]
    refine S.sq (S.rg ?_)
    refine S.dd (D.nxo 1 U U (by omega) ?_)
    refine S.qu (Z.ex U U) ?_
    refine US.nil (UQ.then (S.sq ?_))
    refine S.cF U U ?_
    refine UW.exit (UQ.pass (UQ.pass (UQ.here (UQ.then (S.sq (S.sq (S.rg ?_)))))))
    refine S.qu (Z.mv U) ?_
    refine S.qu (Z.bi U U U) ?_
    refine S.qu (Z.mv U) ?_
    refine S.tD 39 (λhc39=>?_) (λhc39=>?_)
    omega
    refine S.qu (Z.on (Z.mv U)) ?_
    refine S.qu (Z.on (Z.mv U)) ?_
    refine S.qu (Z.on (Z.shl (r:=((2^eU i:Nat):Int)) U U (by omega) hsl)) ?_
    refine S.qu (Z.on (Z.sub (r:=((2^eU i-1:Nat):Int)) U U (by rw[IntWalk.i64_in _ (by omega)];omega))) ?_
    refine S.qu (Z.on (Z.bi (vr:=.int .i64 q) U U (congrArg (λz=>some (Value.int .i64 z)) hand))) ?_
    refine S.qu (Z.on (Z.bi U U U)) ?_
    refine S.qu (Z.pick U U) ?_
    refine US.nil (UQ.then ?_)
    refine S.cT U (uh (by omega)) ?_
    refine S.sq (S.rg ?_)
    refine S.qu (Z.as U) ?_
    refine S.qu (Z.as U) ?_
    refine US.nil (UQ.then (UW.ret (UQ.ax ?_)))
    refine S.bK (λhd=>fJ U (bE U) (bE U)) ?_
    rfl
theorem FH(s:ByteArray)(hs:s.size<=100000)(ha:pO s=true)(H:Hp):au Tryz.prog 96 [.v (.string s)] H (bz H (.v (.bool (rD s)))):=by
 have hcp:∀H,au Tryz.prog 135 [.v (.string s),.v (.string ⟨#[36]⟩)] H (bz H (.kM [.v (.string (if zP s 36=true then s.extract 1 s.size else s)),.v (.bool (zP s 36))])):=λH=>vH s 36 (by decide) H
 have hn:rD s=(zP s 36&&(match Fv (s.extract 1 s.size) with|some l=>decide (l.length=32)|none=>false)):=rfl
 rw[hn]
 cases hp:zP s 36 with
 |true=>
  rw[hp,if_pos U] at hcp
  have hxs:(s.extract 1 s.size).size=s.size-1:=by simp
  have hxa:pO (s.extract 1 s.size)=true:=(wG _).2 λj hj=>by rw[U6 s j (by omega)];exact(wG s).1 ha _ (by omega)
  have hb:=vI (s.extract 1 s.size) (by omega) hxa
  generalize s.extract 1 s.size=r at*
  generalize Fv r=o at*
  cases o with
  |none=>
   refine aF (n:=26) (H0:=H) (I:=[]) Tryz.func96 (by kernel_rfl) U (by rw[Tryz.ntmps96];rfl) .nil ?_
   refine S.sq (S.rg ?_)
   refine S.qu (Z.as U) ?_
   refine US.nil (UQ.then (S.sq (S.rg ?_)))
   refine S.qu (Z.mv U) ?_
   refine S.qu (Z.call U U (λH=>hcp H)) ?_
   refine S.qu (Z.mv U) ?_
   refine S.qu (Z.ex U U) ?_
   refine S.qu (Z.ex U U) ?_
   refine S.qu (Z.as U) ?_
   refine S.qu (Z.as U) ?_
   refine US.nil (UQ.then (S.sq (S.rg ?_)))
   refine S.qu (Z.mv U) ?_
   refine S.qu (Z.call U U (λH=>hb H)) ?_
   refine S.qu (Z.mv U) ?_
   refine S.qu (Z.ex U U) ?_
   refine S.qu (Z.ex U U) ?_
   refine S.qu (Z.as U) ?_
   refine S.qu (Z.as U) ?_
   refine US.nil (UQ.then (S.sq (S.rg ?_)))
   refine S.qu (Z.mv U) ?_
   refine S.qu (Z.mv U) ?_
   refine S.qu (Z.on (Z.mv U)) ?_
   refine S.qu (Z.pick U U) ?_
   refine S.qu (Z.mv U) ?_
   refine S.qu (Z.of) ?_
   refine S.qu (Z.of) ?_
   refine S.qu (Z.of) ?_
   refine S.qu (Z.pick U U) ?_
   refine S.qu (Z.as U) ?_
   refine US.nil (UQ.then (UW.ret ?_))
   refine S.bK (λ_=>ak U U) ?_
   rfl
  |some l=>
   have hel:=bY l
   have hq:(((bf l).length:Int)==32)=decide (l.length=32):=by rw[hel,Bool.eq_iff_iff];simp;omega
   refine aF (n:=26) (H0:=H) (I:=[]) Tryz.func96 (by kernel_rfl) U (by rw[Tryz.ntmps96];rfl) .nil ?_
   refine S.sq (S.rg ?_)
   refine S.qu (Z.as U) ?_
   refine US.nil (UQ.then (S.sq (S.rg ?_)))
   refine S.qu (Z.mv U) ?_
   refine S.qu (Z.call U U (λH=>hcp H)) ?_
   refine S.qu (Z.mv U) ?_
   refine S.qu (Z.ex U U) ?_
   refine S.qu (Z.ex U U) ?_
   refine S.qu (Z.as U) ?_
   refine S.qu (Z.as U) ?_
   refine US.nil (UQ.then (S.sq (S.rg ?_)))
   refine S.qu (Z.mv U) ?_
   refine S.qu (Z.call U U (λH=>hb H)) ?_
   refine S.qu (Z.mv U) ?_
   refine S.qu (Z.ex U U) ?_
   refine S.qu (Z.ex U U) ?_
   refine S.qu (Z.as U) ?_
   refine S.qu (Z.as U) ?_
   refine US.nil (UQ.then (S.sq (S.rg ?_)))
   refine S.qu (Z.mv U) ?_
   refine S.qu (Z.mv U) ?_
   refine S.qu (Z.on (Z.mv U)) ?_
   refine S.qu (Z.pick U U) ?_
   refine S.qu (Z.mv U) ?_
   refine S.qu (Z.on (Z.mv U)) ?_
   refine S.qu (Z.on (Z.fG bR U)) ?_
   refine S.qu (Z.on (Z.bi U U U)) ?_
   refine S.qu (Z.pick U U) ?_
   refine S.qu (Z.as U) ?_
   refine US.nil (UQ.then (UW.ret ?_))
   refine S.bK (λ_=>ak U U) ?_
   focus (exact congrArg (λb=>AV.v (.bool b)) hq;done)
 |false=>
  rw[hp,if_neg (by decide)] at hcp
  have hb:=vI s hs ha
  generalize Fv s=o at*
  cases o with
  |none=>
   refine aF (n:=26) (H0:=H) (I:=[]) Tryz.func96 (by kernel_rfl) U (by rw[Tryz.ntmps96];rfl) .nil ?_
   refine S.sq (S.rg ?_)
   refine S.qu (Z.as U) ?_
   refine US.nil (UQ.then (S.sq (S.rg ?_)))
   refine S.qu (Z.mv U) ?_
   refine S.qu (Z.call U U (λH=>hcp H)) ?_
   refine S.qu (Z.mv U) ?_
   refine S.qu (Z.ex U U) ?_
   refine S.qu (Z.ex U U) ?_
   refine S.qu (Z.as U) ?_
   refine S.qu (Z.as U) ?_
   refine US.nil (UQ.then (S.sq (S.rg ?_)))
   refine S.qu (Z.mv U) ?_
   refine S.qu (Z.call U U (λH=>hb H)) ?_
   refine S.qu (Z.mv U) ?_
   refine S.qu (Z.ex U U) ?_
   refine S.qu (Z.ex U U) ?_
   refine S.qu (Z.as U) ?_
   refine S.qu (Z.as U) ?_
   refine US.nil (UQ.then (S.sq (S.rg ?_)))
   refine S.qu (Z.mv U) ?_
   refine S.qu (Z.mv U) ?_
   refine S.qu (Z.of) ?_
   refine S.qu (Z.pick U U) ?_
   refine S.qu (Z.mv U) ?_
   refine S.qu (Z.of) ?_
   refine S.qu (Z.of) ?_
   refine S.qu (Z.of) ?_
   refine S.qu (Z.pick U U) ?_
   refine S.qu (Z.as U) ?_
   refine US.nil (UQ.then (UW.ret ?_))
   refine S.bK (λ_=>ak U U) ?_
   rfl
  |some l=>
   refine aF (n:=26) (H0:=H) (I:=[]) Tryz.func96 (by kernel_rfl) U (by rw[Tryz.ntmps96];rfl) .nil ?_
   refine S.sq (S.rg ?_)
   refine S.qu (Z.as U) ?_
   refine US.nil (UQ.then (S.sq (S.rg ?_)))
   refine S.qu (Z.mv U) ?_
   refine S.qu (Z.call U U (λH=>hcp H)) ?_
   refine S.qu (Z.mv U) ?_
   refine S.qu (Z.ex U U) ?_
   refine S.qu (Z.ex U U) ?_
   refine S.qu (Z.as U) ?_
   refine S.qu (Z.as U) ?_
   refine US.nil (UQ.then (S.sq (S.rg ?_)))
   refine S.qu (Z.mv U) ?_
   refine S.qu (Z.call U U (λH=>hb H)) ?_
   refine S.qu (Z.mv U) ?_
   refine S.qu (Z.ex U U) ?_
   refine S.qu (Z.ex U U) ?_
   refine S.qu (Z.as U) ?_
   refine S.qu (Z.as U) ?_
   refine US.nil (UQ.then (S.sq (S.rg ?_)))
   refine S.qu (Z.mv U) ?_
   refine S.qu (Z.mv U) ?_
   refine S.qu (Z.of) ?_
   refine S.qu (Z.pick U U) ?_
   refine S.qu (Z.mv U) ?_
   refine S.qu (Z.of) ?_
   refine S.qu (Z.of) ?_
   refine S.qu (Z.of) ?_
   refine S.qu (Z.pick U U) ?_
   refine S.qu (Z.as U) ?_
   refine US.nil (UQ.then (UW.ret ?_))
   refine S.bK (λ_=>ak U U) ?_
   rfl
end Go.Proofs.YtonpfomjoiaacaaGreatDoor
end
