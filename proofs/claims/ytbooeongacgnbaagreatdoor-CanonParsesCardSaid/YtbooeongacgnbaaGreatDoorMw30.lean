/- A part of the proof. -/
import Derived.Test.YtbooeongacgnbaaGreatDoorMw29
import Derived.Lib.ParseIntBCases
set_option maxRecDepth 100000
set_option maxHeartbeats 4000000
set_option linter.unusedSectionVars false
set_option linter.unusedVariables false
set_option linter.unusedSimpArgs false
section
namespace Go.Proofs.YtbooeongacgnbaaGreatDoor
open Go Go.gW Go.RowKit
def dv(acc:Nat)(l:List UInt8):Nat:=l.foldl (λa c=>a*10+(c.toNat-48)) acc
theorem FM(acc:Nat)(c:UInt8)(l:List UInt8):dv acc (c::l)=dv (acc*10+(c.toNat-48)) l:=by unfold dv;rw[List.foldl_cons]
theorem R7(acc:Nat)(l:List UInt8)(c:UInt8):dv acc (l++[c])=dv acc l*10+(c.toNat-48):=by unfold dv;rw[List.foldl_append,List.foldl_cons,List.foldl_nil]
theorem TL(l:List UInt8):∀acc:Nat,acc*10^l.length<=dv acc l:=by
 induction l with
 |nil=>intro acc;rw[List.length_nil,Nat.pow_zero,Nat.mul_one];exact Nat.le_refl _
 |cons c l ih=>
  intro acc
  have h:=ih (acc*10+(c.toNat-48))
  rw[FM,List.length_cons,Nat.pow_succ,Nat.mul_comm (10^l.length) 10,<-Nat.mul_assoc]
  exact Nat.le_trans (Nat.mul_le_mul_right _ (Nat.le_add_right _ _)) h
theorem V9(l:List UInt8)(acc:Nat):acc<=dv acc l:=Nat.le_trans (Nat.le_mul_of_pos_right _ (Nat.pow_pos (by decide))) (TL l acc)
theorem O5:∀(l:List UInt8) (acc:Nat),(∀c∈l,xI c)->acc<=18446744073709551615->Lib.parseUintM 18446744073709551615 acc l=if dv acc l<=18446744073709551615 then .ok (dv acc l) else .range
 |[],acc,_,h=>by
  rw[Lib.parseUintM]
  show _=if acc<=_ then Lib.NumEnd.ok acc else _
  rw[if_pos h]
 |c::l,acc,hd,h=>by
  have hc:=hd c (List.mem_cons_self ..)
  unfold xI at hc
  have hge:=V9 l (acc*10+(c.toNat-48))
  rw[Lib.parseUintM,if_pos hc,FM]
  by_cases h1:1844674407370955162<=acc
  ·rw[if_pos h1,if_neg (by omega)]
  ·rw[if_neg h1]
   by_cases h2:18446744073709551615<acc*10+(c.toNat-48)
   ·rw[if_pos h2,if_neg (by omega)]
   ·rw[if_neg h2]
    exact O5 l _ (λx hx=>hd x (List.mem_cons_of_mem _ hx)) (by omega)
theorem ZQ{l:List UInt8}(h:l≠[])(hd:∀c∈l,xI c):Lib.parseUintB 64 l=if dv 0 l<=18446744073709551615 then .ok (dv 0 l) else .range:=by
 unfold Lib.parseUintB
 rw[if_neg h]
 exact O5 l 0 hd (Nat.zero_le _)
theorem MR{l:List UInt8}(h:l≠[])(hd:∀c∈l,xI c):Lib.parseIntB 64 l=if dv 0 l<9223372036854775808 then .ok (dv 0 l:Int) else .range:=by
 have PV:=ZQ h hd
 match l,h,hd,PV with
 |c::r,_,hd,PV=>
  have hc:=hd c (List.mem_cons_self ..)
  unfold xI at hc
  rw[Lib.parseIntB_plain 64 c r (by omega) (by omega),PV]
  by_cases h1:dv 0 (c::r)<9223372036854775808
  ·rw[if_pos h1,if_pos (by omega)]
   dsimp only[Lib.signlessC]
   rw[if_neg (by show ¬(2^(64-1):Nat)<=_;omega)]
  ·rw[if_neg h1]
   split
   ·dsimp only[Lib.signlessC]
    rw[if_pos (by show(2^(64-1):Nat)<=_;omega)]
   ·rfl
theorem MS{l:List UInt8}(h:l≠[])(hd:∀c∈l,xI c):Lib.parseIntB 64 (45::l)=if dv 0 l<=9223372036854775808 then .ok (-(dv 0 l:Int)) else .range:=by
 rw[Lib.parseIntB_minus,ZQ h hd]
 by_cases h1:dv 0 l<=9223372036854775808
 ·rw[if_pos h1,if_pos (by omega)]
  dsimp only[Lib.signedC]
  rw[if_neg (by show ¬(2^(64-1):Nat)<_;omega)]
 ·rw[if_neg h1]
  split
  ·dsimp only[Lib.signedC]
   rw[if_pos (by show(2^(64-1):Nat)<_;omega)]
  ·rfl
theorem H9:Lib.parseIntB 64 [45]=.syntax:=rfl
theorem sO(s:ByteArray)(a:Nat):∀k,k<=aT s a->a<=s.size->(((bl s).drop a).take k).length=k/\(∀c∈((bl s).drop a).take k,xI c)/\jo s a k=(dv 0 (((bl s).drop a).take k):Int)
 |0,_,_=>⟨by simp,by simp,by simp[jo,dv]⟩
 |k+1,hk,ha=>by
  obtain⟨h1,h2,h3⟩:=sO s a k (by omega) ha
  have hle:=sF s a ha
  have hlt:a+k<s.size:=by omega
  have hd:=zz s a k (by omega)
  have hx:=jb s (a+k) hlt
  have hlt2:k<((bl s).drop a).length:=by rw[List.length_drop,iq];omega
  have e:((bl s).drop a).take (k+1)=((bl s).drop a).take k++[(bl s)[a+k]'hlt]:=by
   rw[List.take_succ_eq_append_getElem hlt2,List.getElem_drop]
  have ZR:xI ((bl s)[a+k]'hlt):=by unfold xI;omega
  refine⟨by rw[e,List.length_append,h1];rfl,λc hc=>?_,?_⟩
  ·rw[e] at hc
   rcases List.mem_append.1 hc with g|g
   ·exact h2 c g
   ·rw[List.mem_singleton.1 g];exact ZR
  ·rw[e,R7]
   show 10*jo s a k+(aO s ((a+k:Nat):Int)-48)=_
   unfold xI at ZR
   rw[h3,hx]
   omega
theorem R8(s:ByteArray)(a:Nat)(ha:a<=s.size)(h:16<aT s a)(h0:aO s (a:Int)≠48):9007199254740991<jo s a (aT s a):=by
 obtain⟨h1,h2,h3⟩:=sO s a (aT s a) (Nat.le_refl _) ha
 have hle:=sF s a ha
 have hlt:a<s.size:=by omega
 have hx:=jb s a hlt
 rw[h3]
 have e:((bl s).drop a).take (aT s a)=(bl s)[a]'hlt::((bl s).drop (a+1)).take (aT s a-1):=by
  rw[List.drop_eq_getElem_cons (show a<(bl s).length from hlt)]
  obtain⟨m,hm⟩:∃m,aT s a=m+1:=⟨aT s a-1,by omega⟩
  rw[hm,List.take_succ_cons]
  rfl
 have hdig:=h2 ((bl s)[a]'hlt) (by rw[e];exact List.mem_cons_self ..)
 unfold xI at hdig
 have hlen:(((bl s).drop (a+1)).take (aT s a-1)).length=aT s a-1:=by
  have:=h1
  rw[e,List.length_cons] at this
  omega
 have hge:=TL (((bl s).drop (a+1)).take (aT s a-1)) (0*10+(((bl s)[a]'hlt).toNat-48))
 rw[<-FM,<-e,hlen] at hge
 have hp:(10^16:Nat)<=10^(aT s a-1):=Nat.pow_le_pow_right (by decide) (by omega)
 have h1d:1<=0*10+(((bl s)[a]'hlt).toNat-48):=by omega
 have:(10^16:Nat)<=dv 0 (((bl s).drop a).take (aT s a)):=Nat.le_trans hp (Nat.le_trans (Nat.le_mul_of_pos_left _ (by omega)) hge)
 have h16:(10^16:Nat)=10000000000000000:=rfl
 omega
theorem Bo(s:ByteArray)(q:Nat):∀k:Nat,q+k<=s.size->aT (s.extract q s.size) k=aT s (q+k):=by
 intro k hk
 have hz:(s.extract q s.size).size=s.size-q:=by rw[ByteArray.size_extract];omega
 by_cases hlt:q+k<s.size
 ·have hat:=jC s q k hlt
  rw[sN (by omega),sN hlt,hat]
  split
  ·rw[Bo s q (k+1) (by omega)];rfl
  ·rfl
 ·rw[rO (by omega),rO hlt]
termination_by k=>s.size-q-k
theorem Wd:∀n:Fin 256,(0<=Lib.indexByte [46,101,69] (UInt8.ofNat n.val))↔(n.val=46\/n.val=101\/n.val=69):=by decide+kernel
end Go.Proofs.YtbooeongacgnbaaGreatDoor
end
