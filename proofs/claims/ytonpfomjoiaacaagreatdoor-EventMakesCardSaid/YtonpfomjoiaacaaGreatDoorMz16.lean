/- A part of the proof. -/
import Derived.Test.YtonpfomjoiaacaaGreatDoorMz15
import Derived.Test.YtonpfomjoiaacaaGreatDoorMz12
set_option maxRecDepth 100000
set_option maxHeartbeats 4000000
set_option linter.unusedSectionVars false
set_option linter.unusedVariables false
set_option linter.unusedSimpArgs false
section
namespace Go.Proofs.YtonpfomjoiaacaaGreatDoor
open Go Go.fT Go.RowKit
def dO{α:Type}(l:List α)(i:Nat)(x:α):List α:=l.take i++x::l.drop i
theorem PT{H:Hp}{i j:Nat}{a b:Ob}{r:List (Nat×Ob)}(h:aM H ((i,a)::(j,b)::r)):i≠j:=by
 cases h with
 |cons h1 _=>exact Ne.symm ((oh h1).2 (j,b) (by simp))
def InsR(e sz:Nat)(rows:List (List AV))(i:Nat)(x:List AV)(u:AV)(news:List (Nat×Ob)):Prop:=∃id',u=.own id' 0 (rows.length+1) sz/\news=[(id',.row e sz (dO rows i x))]
theorem bW{α:Type}(l:List α)(i:Nat)(x:α)(hi:i<=l.length):(dO l i x).length=l.length+1:=by unfold dO;simp;omega
theorem PU{α:Type}(l:List α)(i:Nat)(x:α)(h:i=l.length):l.take l.length++[x]=dO l i x:=by subst h;simp[dO]
theorem PV{α:Type}(l:List α)(i:Nat)(x z:α)(h:i<=l.length):(l.take i++List.replicate (l.length+1-i) z).take (0+i)++[x]++(l.take i++List.replicate (l.length+1-i) z).drop (0+i+1)=l.take i++x::List.replicate (l.length-i) z:=by
 have e1:(l.take i).length=i:=by rw[List.length_take];omega
 rw[Nat.zero_add,List.take_left' e1,List.drop_append,e1,List.drop_of_length_le (by omega),List.nil_append,List.drop_replicate]
 have:l.length+1-i-(i+1-i)=l.length-i:=by omega
 rw[this];simp
theorem PW{α:Type}(l:List α)(i:Nat)(x z:α)(h:i<=l.length):(l.take i++x::List.replicate (l.length-i) z).take (0+(i+1))++(l.drop (0+i)).take (l.length-i)++(l.take i++x::List.replicate (l.length-i) z).drop (0+(i+1)+(l.length-i))=dO l i x:=by
 have e1:(l.take i).length=i:=by rw[List.length_take];omega
 have e2:l.take i++x::List.replicate (l.length-i) z=(l.take i++[x])++List.replicate (l.length-i) z:=by simp
 have e3:(l.take i++x::List.replicate (l.length-i) z).drop (0+(i+1)+(l.length-i))=[]:=List.drop_eq_nil_of_le (by(simp;omega))
 have e4:(l.drop (0+i)).take (l.length-i)=l.drop i:=by rw[Nat.zero_add];exact List.take_of_length_le (by rw[List.length_drop];omega)
 rw[e3,e4,e2,Nat.zero_add,List.take_left' (by(simp;omega))]
 simp[dO]
theorem Gq{α:Type}(l:List α)(i:Nat)(h:i<l.length):l.take (0+(i+1))++(l.drop (0+i)).take (l.length-i)++l.drop (0+(i+1)+(l.length-i))=l.take (i+1)++l.drop i:=by
 have e3:l.drop (0+(i+1)+(l.length-i))=[]:=List.drop_eq_nil_of_le (by omega)
 have e4:(l.drop (0+i)).take (l.length-i)=l.drop i:=by rw[Nat.zero_add];exact List.take_of_length_le (by rw[List.length_drop];omega)
 rw[e3,e4,Nat.zero_add,List.append_nil]
theorem La{α:Type}(l:List α)(i:Nat)(x:α)(h:i<l.length):(l.take (i+1)++l.drop i).take (0+i)++[x]++(l.take (i+1)++l.drop i).drop (0+i+1)=dO l i x:=by
 have e1:(l.take (i+1)).length=i+1:=by rw[List.length_take];omega
 rw[Nat.zero_add,List.take_append_of_le_length (by omega),List.take_take,Nat.min_eq_left (by omega),List.drop_left' e1]
 simp[dO]
theorem Il(rows:List (List AV))(hr:∀cs∈rows,cs.length=1)(hb:rows.length<=1000000)(x:List AV)(hx1:x.length=1)(i:Nat)(hi:i<=rows.length)(id jQ:Nat)(H:Hp)(hD:aM H [(id,.row 9 1 rows),(jQ,.row 9 1 [x])]):
 au Tryz.prog 113 [.own id 0 rows.length 1,.v (.int .i64 (i:Int)),.own jQ 0 1 1] (aC H [(id,.row 9 1 rows),(jQ,.row 9 1 [x])])
  (λu H'=>∃news,aM H news/\H'=aC H news/\InsR 9 1 rows i x u news):=by
 have hne:id≠jQ:=PT hD
 refine aF (n:=95) (H0:=H) (I:=[(id,.row 9 1 rows),(jQ,.row 9 1 [x])]) Tryz.func113 (by kernel_rfl) U (by rw[Tryz.ntmps113];rfl) hD<|?_
 focus
  refine Q.rg<|Q.as U<|Q.nt<|Q.rg<|Q.mv U<|Q.mv U<|S.qu (Z.Cn aY U (.lo U) (by omega) (by omega))<|Q.nt<|Q.rg<|Q.mv U<|S.qu (Z.M8 aY U)<|Q.as U<|Q.nt<|S.sq<|Q.rg<|Q.mv U<|Q.bi U U U<|Q.nt<|S.cF U (iy (by omega))<|UW.skip<|UQ.then<|Q.rg<|Q.mv U<|S.qu (Z.M8 aY U)<|Q.as U<|Q.nt<|S.sq<|Q.rg<|Q.mv U<|Q.mv U<|Q.bi U U U<|Q.nt<|?_
  refine S.cE U (λhc0=>?_) (λhc0=>?_)
  refine Q.rg<|Q.mv U<|Q.mv U<|S.dd<|D.ap 0 dV U U (by omega) U (.own (k:=1) (rs:=[x]) U (by simp) U) (by(simp;omega)) (PU rows i x (by omega)) λp25=>?_
  refine Q.as U<|Q.nt<|UW.ret<|UQ.ax<|?_
  rotate_left
  refine UW.skip<|UQ.then<|S.sq<|Q.rg<|Q.mv U<|Q.mv U<|S.qu (Z.add U U (IntWalk.i64_in _ (by omega)))<|Q.mv U<|S.dd<|D.cap 0 aY U U (by omega) λc hc1 hc2 hc3=>Q.bi U U U<|Q.nt<|?_
  refine S.cD U (λhc1=>?_) (λhc1=>?_)
  refine Q.rg<|Q.mv U<|Q.mv U<|S.qu (Z.Cn aY U (.hi U) (by omega) (by omega))<|Q.mv U<|Q.mv U<|S.qu (Z.add U U (IntWalk.i64_in _ (by omega)))<|Q.mv U<|S.qu (Z.sub (r:=((rows.length+1-i:Nat):Int)) U U (Eq.trans (IntWalk.i64_in _ (by omega)) (by omega)))<|S.dd<|D.apz 0 dV Tryz.underlying3 U U U (by omega) (by omega) (by omega) (by omega) z9 U U λp40 hp40=>Q.as U<|Q.nt<|Q.rg<|Q.mv U<|Q.mv U<|S.qu (Z.Cn aY U (.lo U) (by omega) (by omega))<|Q.mv U<|S.dd<|D.cpr 0 aY U U U (by omega) (.of (.own (k:=2) (rs:=[x]) U (by simp) U) (m:=1) (by simp) U U) (m:=1) (by(simp[Nat.min_def];omega)) U (by(simp;omega)) (PV rows i x _ hi)<|?_
  refine Q.nt<|S.sq<|?_
  refine' UW.bG (by kernel_rfl) [0,0,0,6,15,0,0,96,255] [some 46,some 47,some 48,some 49,some 50,some 51,some 52,some 53,none] [some (46,_),some (47,_),some (48,_),some (49,_),some (50,_),some (51,_),some (52,_),some (53,_),none] [8] [] U (by decide) (by decide) (M.free (by decide) U U ?aaa (M.free (by decide) U U ?aab (M.free (by decide) U U ?aac (M.free (by decide) U U ?aad (M.free (by decide) U U ?aae (M.free (by decide) U U ?aaf (M.free (by decide) U U ?aag (M.free (by decide) U U ?aah (M.skip M.nil))))))))) ?q2_k
  case aaa=>(intro _;exact Z.mv rfl)
  case aab=>(intro _;exact Z.mv rfl)
  case aac=>(intro _;exact Z.mv rfl)
  case aad=>(intro _;exact Z.add (r:=((i+1:Nat):Int)) rfl rfl (Eq.trans (IntWalk.i64_in _ (by omega)) (by omega)))
  case aae=>(intro _;exact Z.Cn aY rfl (.lo rfl) (by omega) (by omega))
  case aaf=>(intro _;exact Z.mv rfl)
  case aag=>(intro _;exact Z.mv rfl)
  case aah=>(intro _;exact Z.Cn aY rfl (.lo rfl) (by omega) (by omega))
  refine CH.cons U U (by decide)<|D.cpr 0 aY U U U (by omega) (.jA (k:=1) (m:=rows.length-i) U (by omega) (by omega) U) (m:=rows.length-i) (by(simp[Nat.min_def];omega)) (by(simp;done)) (by(simp;omega)) (PW rows i x _ hi)<|?_
  refine CH.nil<|?_
  simp only[app,bV]
  refine UQ.then<|Q.rg<|Q.mv U<|Q.as U<|Q.nt<|UW.ret<|UQ.ax<|?_
  rotate_left
  refine UW.skip<|UQ.then<|Q.rg<|Q.mv U<|Q.mv U<|Q.mv U<|S.qu (Z.add (r:=((rows.length+1:Nat):Int)) U U (Eq.trans (IntWalk.i64_in _ (by omega)) (by omega)))<|S.dd<|D.slr 0 aY U U (by omega) (.hi U) (by simp) (by omega) (by omega)<|?_
  refine Q.as U<|Q.nt<|S.sq<|Q.rg<|Q.mv U<|Q.mv U<|Q.mv U<|Q.mv U<|S.qu (Z.add (r:=((i+1:Nat):Int)) U U (Eq.trans (IntWalk.i64_in _ (by omega)) (by omega)))<|S.qu (Z.Cn aY U (.lo U) (by omega) (by omega))<|?_
  refine S.dd (D.ovl (tr:=4) 1 0 Tryz.func153 aY U U U U U (Ne.symm hne) (by omega) (by omega) ?_ (by kernel_rfl))
  refine S.qu (Z.not U)<|Q.nt<|S.cT U U<|S.sq<|?_
  refine' UW.bG (by kernel_rfl) [0,0,0,6,15,0,0,96,255] [some 69,some 70,some 71,some 72,some 73,some 74,some 75,some 76,none] [some (69,_),some (70,_),some (71,_),some (72,_),some (73,_),some (74,_),some (75,_),some (76,_),none] [8] [] U (by decide) (by decide) (M.free (by decide) U U ?aai (M.free (by decide) U U ?aaj (M.free (by decide) U U ?aak (M.free (by decide) U U ?aal (M.free (by decide) U U ?aam (M.free (by decide) U U ?aan (M.free (by decide) U U ?aao (M.free (by decide) U U ?aap (M.skip M.nil))))))))) ?q3_k
  case aai=>(intro _;exact Z.mv rfl)
  case aaj=>(intro _;exact Z.mv rfl)
  case aak=>(intro _;exact Z.mv rfl)
  case aal=>(intro _;exact Z.add (r:=((i+1:Nat):Int)) rfl rfl (Eq.trans (IntWalk.i64_in _ (by omega)) (by omega)))
  case aam=>(intro _;exact Z.Cn aY rfl (.lo rfl) (by omega) (by omega))
  case aan=>(intro _;exact Z.mv rfl)
  case aao=>(intro _;exact Z.mv rfl)
  case aap=>(intro _;exact Z.Cn aY rfl (.lo rfl) (by omega) (by omega))
  refine CH.cons U U (by decide)<|D.cpc 0 aY U U U (by omega) (.jA (k:=0) (m:=rows.length-i) U (by omega) (by omega) U) (m:=rows.length-i) (by(simp[Nat.min_def];omega)) (by(simp;done)) (by omega) (by omega) (Gq rows i (by omega))<|?_
  refine CH.nil<|?_
  simp only[app,bV]
  refine UQ.then<|Q.rg<|Q.mv U<|Q.mv U<|S.qu (Z.Cn aY U (.lo U) (by omega) (by omega))<|Q.mv U<|S.dd<|D.cpc 0 aY U U U (by omega) (.of (.own (k:=1) (rs:=[x]) U (by simp) U) (m:=1) (by simp) U U) (m:=1) (by(simp[Nat.min_def];omega)) U (by(simp;omega)) (by omega) (La rows i x (by omega))<|?_
  refine Q.nt<|Q.rg<|Q.mv U<|Q.as U<|?_
  refine US.retag 6 0 U U (by omega) (λid'=>?_)
  refine Q.nt<|UW.ret<|UQ.ax<|?_
  rotate_left
 all_goals exact bN [_] (λ_=>ak U U) (.cons_cons _ (List.nil_sublist _)) λhd=>⟨_,hd,rfl,_,by first|rfl|(congr 1;omega),rfl⟩
theorem Im(rows:List (List AV))(hr:∀cs∈rows,cs.length=5)(hb:rows.length<=1000000)(x:List AV)(hx1:x.length=5)(i:Nat)(hi:i<=rows.length)(id jQ:Nat)(H:Hp)(hD:aM H [(id,.row 26 5 rows),(jQ,.row 26 5 [x])]):
 au Tryz.prog 114 [.own id 0 rows.length 5,.v (.int .i64 (i:Int)),.own jQ 0 1 5] (aC H [(id,.row 26 5 rows),(jQ,.row 26 5 [x])])
  (λu H'=>∃news,aM H news/\H'=aC H news/\InsR 26 5 rows i x u news):=by
 have hne:id≠jQ:=PT hD
 refine aF (n:=95) (H0:=H) (I:=[(id,.row 26 5 rows),(jQ,.row 26 5 [x])]) Tryz.func114 (by kernel_rfl) U (by rw[Tryz.ntmps114];rfl) hD<|?_
 focus
  refine Q.rg<|Q.as U<|Q.nt<|Q.rg<|Q.mv U<|Q.mv U<|S.qu (Z.Cn bM U (.lo U) (by omega) (by omega))<|Q.nt<|Q.rg<|Q.mv U<|S.qu (Z.M8 bM U)<|Q.as U<|Q.nt<|S.sq<|Q.rg<|Q.mv U<|Q.bi U U U<|Q.nt<|S.cF U (iy (by omega))<|UW.skip<|UQ.then<|Q.rg<|Q.mv U<|S.qu (Z.M8 bM U)<|Q.as U<|Q.nt<|S.sq<|Q.rg<|Q.mv U<|Q.mv U<|Q.bi U U U<|Q.nt<|?_
  refine S.cE U (λhc0=>?_) (λhc0=>?_)
  refine Q.rg<|Q.mv U<|Q.mv U<|S.dd<|D.ap 0 iP U U (by omega) U (.own (k:=1) (rs:=[x]) U (by simp) U) (by(simp;omega)) (PU rows i x (by omega)) λp25=>?_
  refine Q.as U<|Q.nt<|UW.ret<|UQ.ax<|?_
  rotate_left
  refine UW.skip<|UQ.then<|S.sq<|Q.rg<|Q.mv U<|Q.mv U<|S.qu (Z.add U U (IntWalk.i64_in _ (by omega)))<|Q.mv U<|S.dd<|D.cap 0 bM U U (by omega) λc hc1 hc2 hc3=>Q.bi U U U<|Q.nt<|?_
  refine S.cD U (λhc1=>?_) (λhc1=>?_)
  refine Q.rg<|Q.mv U<|Q.mv U<|S.qu (Z.Cn bM U (.hi U) (by omega) (by omega))<|Q.mv U<|Q.mv U<|S.qu (Z.add U U (IntWalk.i64_in _ (by omega)))<|Q.mv U<|S.qu (Z.sub (r:=((rows.length+1-i:Nat):Int)) U U (Eq.trans (IntWalk.i64_in _ (by omega)) (by omega)))<|S.dd<|D.apz 0 iP Tryz.underlying3 U U U (by omega) (by omega) (by omega) (by omega) z26 U U λp40 hp40=>Q.as U<|Q.nt<|Q.rg<|Q.mv U<|Q.mv U<|S.qu (Z.Cn bM U (.lo U) (by omega) (by omega))<|Q.mv U<|S.dd<|D.cpr 0 bM U U U (by omega) (.of (.own (k:=2) (rs:=[x]) U (by simp) U) (m:=1) (by simp) U U) (m:=1) (by(simp[Nat.min_def];omega)) U (by(simp;omega)) (PV rows i x _ hi)<|?_
  refine Q.nt<|S.sq<|?_
  refine' UW.bG (by kernel_rfl) [0,0,0,6,15,0,0,96,255] [some 46,some 47,some 48,some 49,some 50,some 51,some 52,some 53,none] [some (46,_),some (47,_),some (48,_),some (49,_),some (50,_),some (51,_),some (52,_),some (53,_),none] [8] [] U (by decide) (by decide) (M.free (by decide) U U ?aaa (M.free (by decide) U U ?aab (M.free (by decide) U U ?aac (M.free (by decide) U U ?aad (M.free (by decide) U U ?aae (M.free (by decide) U U ?aaf (M.free (by decide) U U ?aag (M.free (by decide) U U ?aah (M.skip M.nil))))))))) ?q2_k
  case aaa=>(intro _;exact Z.mv rfl)
  case aab=>(intro _;exact Z.mv rfl)
  case aac=>(intro _;exact Z.mv rfl)
  case aad=>(intro _;exact Z.add (r:=((i+1:Nat):Int)) rfl rfl (Eq.trans (IntWalk.i64_in _ (by omega)) (by omega)))
  case aae=>(intro _;exact Z.Cn bM rfl (.lo rfl) (by omega) (by omega))
  case aaf=>(intro _;exact Z.mv rfl)
  case aag=>(intro _;exact Z.mv rfl)
  case aah=>(intro _;exact Z.Cn bM rfl (.lo rfl) (by omega) (by omega))
  refine CH.cons U U (by decide)<|D.cpr 0 bM U U U (by omega) (.jA (k:=1) (m:=rows.length-i) U (by omega) (by omega) U) (m:=rows.length-i) (by(simp[Nat.min_def];omega)) (by(simp;done)) (by(simp;omega)) (PW rows i x _ hi)<|?_
  refine CH.nil<|?_
  simp only[app,bV]
  refine UQ.then<|Q.rg<|Q.mv U<|Q.as U<|Q.nt<|UW.ret<|UQ.ax<|?_
  rotate_left
  refine UW.skip<|UQ.then<|Q.rg<|Q.mv U<|Q.mv U<|Q.mv U<|S.qu (Z.add (r:=((rows.length+1:Nat):Int)) U U (Eq.trans (IntWalk.i64_in _ (by omega)) (by omega)))<|S.dd<|D.slr 0 bM U U (by omega) (.hi U) (by simp) (by omega) (by omega)<|?_
  refine Q.as U<|Q.nt<|S.sq<|Q.rg<|Q.mv U<|Q.mv U<|Q.mv U<|Q.mv U<|S.qu (Z.add (r:=((i+1:Nat):Int)) U U (Eq.trans (IntWalk.i64_in _ (by omega)) (by omega)))<|S.qu (Z.Cn bM U (.lo U) (by omega) (by omega))<|?_
  refine S.dd (D.ovl (tr:=4) 1 0 Tryz.func155 bM U U U U U (Ne.symm hne) (by omega) (by omega) ?_ (by kernel_rfl))
  refine S.qu (Z.not U)<|Q.nt<|S.cT U U<|S.sq<|?_
  refine' UW.bG (by kernel_rfl) [0,0,0,6,15,0,0,96,255] [some 69,some 70,some 71,some 72,some 73,some 74,some 75,some 76,none] [some (69,_),some (70,_),some (71,_),some (72,_),some (73,_),some (74,_),some (75,_),some (76,_),none] [8] [] U (by decide) (by decide) (M.free (by decide) U U ?aai (M.free (by decide) U U ?aaj (M.free (by decide) U U ?aak (M.free (by decide) U U ?aal (M.free (by decide) U U ?aam (M.free (by decide) U U ?aan (M.free (by decide) U U ?aao (M.free (by decide) U U ?aap (M.skip M.nil))))))))) ?q3_k
  case aai=>(intro _;exact Z.mv rfl)
  case aaj=>(intro _;exact Z.mv rfl)
  case aak=>(intro _;exact Z.mv rfl)
  case aal=>(intro _;exact Z.add (r:=((i+1:Nat):Int)) rfl rfl (Eq.trans (IntWalk.i64_in _ (by omega)) (by omega)))
  case aam=>(intro _;exact Z.Cn bM rfl (.lo rfl) (by omega) (by omega))
  case aan=>(intro _;exact Z.mv rfl)
  case aao=>(intro _;exact Z.mv rfl)
  case aap=>(intro _;exact Z.Cn bM rfl (.lo rfl) (by omega) (by omega))
  refine CH.cons U U (by decide)<|D.cpc 0 bM U U U (by omega) (.jA (k:=0) (m:=rows.length-i) U (by omega) (by omega) U) (m:=rows.length-i) (by(simp[Nat.min_def];omega)) (by(simp;done)) (by omega) (by omega) (Gq rows i (by omega))<|?_
  refine CH.nil<|?_
  simp only[app,bV]
  refine UQ.then<|Q.rg<|Q.mv U<|Q.mv U<|S.qu (Z.Cn bM U (.lo U) (by omega) (by omega))<|Q.mv U<|S.dd<|D.cpc 0 bM U U U (by omega) (.of (.own (k:=1) (rs:=[x]) U (by simp) U) (m:=1) (by simp) U U) (m:=1) (by(simp[Nat.min_def];omega)) U (by(simp;omega)) (by omega) (La rows i x (by omega))<|?_
  refine Q.nt<|Q.rg<|Q.mv U<|Q.as U<|?_
  refine US.retag 6 0 U U (by omega) (λid'=>?_)
  refine Q.nt<|UW.ret<|UQ.ax<|?_
  rotate_left
 all_goals exact bN [_] (λ_=>ak U U) (.cons_cons _ (List.nil_sublist _)) λhd=>⟨_,hd,rfl,_,by first|rfl|(congr 1;omega),rfl⟩
def ints(l:List Int):AV:=.sl (l.map encI)
theorem Tv(l:List Int)(k:Nat)(h:k<l.length):(l.map encI)[((k:Nat):Int).toNat]? =some (encI l[k]):=by rw[Int.toNat_natCast,List.getElem?_map,List.getElem?_eq_getElem h];rfl
theorem QT{α:Type}(g:α->Int)(l:List α)(k:Nat)(h:k<l.length):((l.map g).map encI).take k++[encI (g l[k])]=((l.map g).map encI).take (k+1):=by
 rw[List.take_add_one,List.getElem?_map,List.getElem?_map,List.getElem?_eq_getElem h];rfl
def Io:List Int->Int
 |[]=>0
 |a::r=>r.foldl (λm c=>if c>m then c else m) a
mutual
def dh:V->Int
 | .mk k _ _ _ vs=>if k=4\/k=5 then 1+Io (xA vs++[0]) else 0
def xA:List V->List Int
 |[]=>[]
 |x::r=>dh x::xA r
end
theorem vW:∀l:List V,xA l=l.map dh
 |[]=>rfl
 |x::r=>by rw[xA,vW r];rfl
theorem rX{a:Int}:∀{r:List Int} {b:Int},b<=a->(∀c∈r,c<=a)->r.foldl (λm c=>if c>m then c else m) b<=a
 |[],_,h,_=>h
 |c::r,b,h,h2=>by
  simp only[List.foldl_cons]
  refine rX ?_ (λc' hc'=>h2 c' (by simp[hc']))
  split
  ·exact h2 c (by simp)
  ·exact h
theorem oZ:∀{r:List Int} {b:Int},b<=r.foldl (λm c=>if c>m then c else m) b/\∀c∈r,c<=r.foldl (λm c=>if c>m then c else m) b
 |[],_=>⟨Int.le_refl _,by simp⟩
 |c::r,b=>by
  simp only[List.foldl_cons]
  have ih:=oZ (r:=r) (b:=if c>b then c else b)
  refine⟨?_,λc' hc'=>?_⟩
  ·refine Int.le_trans ?_ ih.1
   split<;>omega
  ·rcases List.mem_cons.1 hc' with rfl|h
   ·refine Int.le_trans ?_ ih.1
    split<;>omega
   ·exact ih.2 c' h
theorem Co{l:List Int}{c:Int}(h:c∈l):c<=Io l:=by
 cases l with
 |nil=>simp at h
 |cons a r=>
  rcases List.mem_cons.1 h with rfl|h
  ·exact oZ.1
  ·exact oZ.2 c h
theorem yX(x:V):0<=dh x:=by
 obtain⟨k,n,t,ks,vs⟩:=x
 unfold dh
 split
 ·have:=Co (l:=xA vs++[0]) (c:=0) (by simp)
  omega
 ·omega
theorem Tw{k n:Int}{t:ByteArray}{ks:List ByteArray}{vs:List V}{x:V}(h:k=4\/k=5)(hx:x∈vs):dh x<dh (.mk k n t ks vs):=by
 rw[show dh (.mk k n t ks vs)=1+Io (xA vs++[0]) from by rw[dh,if_pos h]]
 have:=Co (l:=xA vs++[0]) (c:=dh x) (by rw[vW];exact List.mem_append_left _ (List.mem_map_of_mem hx))
 omega
def pre(s p:ByteArray):Bool:=decide (p.size<=s.size)&&(s.extract 0 p.size).toList==p.toList
def Du(a b:ByteArray):Int:=Lib.compareBytes a.data.toList b.data.toList
theorem xB(s p:ByteArray)(H:Hp):
 au Tryz.prog 196 [.v (.string s),.v (.string p)] H (bz H (.v (.int .i64 (Du s p)))):=by
 refine aF (n:=8) (H0:=H) (I:=[]) Tryz.func196 (by kernel_rfl) U (by rw[Tryz.ntmps196];rfl) .nil<|?_
 refine Q.rg<|Q.as U<|Q.nt<|Q.rg<|Q.mv U<|Q.mv U<|US.compare U (by decide) U U U Tryz.func236 (by kernel_rfl) (by kernel_rfl) (by kernel_rfl) (by kernel_rfl) U U<|Q.as U<|Q.nt<|UW.ret<|?_
 exact bN [] (λ_=>ak U U) (by simp) λhd=>⟨rfl,rfl⟩
theorem Ip(s p:ByteArray)(H:Hp):
 au Tryz.prog 152 [.v (.string s),.v (.string p)] H (bz H (.v (.int .i64 (Du s p)))):=by
 refine aF (n:=8) (H0:=H) (I:=[]) Tryz.func152 (by kernel_rfl) U (by rw[Tryz.ntmps152];rfl) .nil<|?_
 refine Q.rg<|Q.as U<|Q.nt<|Q.rg<|Q.mv U<|Q.mv U<|US.dz U (by decide) U U U U (λ_=>xB s p _)<|Q.as U<|Q.nt<|UW.ret<|?_
 exact bN [] (λ_=>ak U U) (by simp) λhd=>⟨rfl,rfl⟩
theorem QU(s p:ByteArray)(H:Hp):
 au Tryz.prog 112 [.v (.string s),.v (.string p)] H (bz H (.v (.bool (decide (Du s p<0))))):=by
 refine aF (n:=9) (H0:=H) (I:=[]) Tryz.func112 (by kernel_rfl) U (by rw[Tryz.ntmps112];rfl) .nil<|?_
 refine Q.rg<|Q.as U<|Q.nt<|Q.rg<|Q.mv U<|Q.mv U<|US.dz U (by decide) U U U U (λ_=>Ip s p _)<|Q.bi U U U<|Q.as U<|Q.nt<|UW.ret<|?_
 exact bN [] (λ_=>ak U U) (by simp) λhd=>⟨rfl,rfl⟩
def F6:ByteArray:=⟨#[0xEF,0xBF,0xBD]⟩
def Lb(s:ByteArray)(pos:Nat):Bool:=(Utf8.decode s pos).1==65533&&!(pre (s.extract pos s.size) F6)
def VF(s:ByteArray):Nat->Nat->Int
 |0,_=> -1
 |f+1,pos=>if pos<s.size then(if Lb s pos then(pos:Int) else VF s f (pos+(Utf8.decode s pos).2)) else-1
def PX(s:ByteArray):Int:=VF s (s.size+1) 0
end Go.Proofs.YtonpfomjoiaacaaGreatDoor
end
