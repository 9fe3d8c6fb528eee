/- A part of the proof. -/
import Derived.Test.YtonpfomjoiaacaaGreatDoorMw37
set_option maxRecDepth 100000
set_option maxHeartbeats 4000000
set_option linter.unusedSectionVars false
set_option linter.unusedVariables false
set_option linter.unusedSimpArgs false
section
namespace Go.Proofs.YtonpfomjoiaacaaGreatDoor
open Go Go.iG Go.RowKit
def pick(L:List (ByteArray×V))(seen:List Nat):List (ByteArray×V):=seen.filterMap λi=>L[i]?
theorem Uz{L:List (ByteArray×V)}{seen:List Nat}{i:Nat}{p:ByteArray×V}(h:L[i]? =some p):dY (pick L (seen++[i]))=aQ (dY (pick L seen)) p.1 p.2:=by
 have:pick L (seen++[i])=pick L seen++[p]:=by unfold pick;rw[List.filterMap_append];simp[h]
 rw[this,lQ]
theorem OO{L:List (ByteArray×V)}{seen:List Nat}{p:ByteArray×V}(h:p∈pick L seen):p∈L:=by
 obtain⟨i,_,h⟩:=List.mem_filterMap.1 h;exact List.mem_of_getElem? h
theorem UA{L:List (ByteArray×V)}{seen:List Nat}(hL:(L.map (·.1)).Nodup)(hs:seen.Nodup)(ha:∀i,i<L.length->i∈seen):dY (pick L seen)=dY L:=by
 refine Hd ?_ hL λp=>⟨OO,λh=>?_⟩
 ·have:(pick L seen).map (·.1)=seen.filterMap λi=>(L.map (·.1))[i]? :=by
   unfold pick;rw[List.map_filterMap];congr 1;funext i;rw[List.getElem?_map]
  rw[this]
  refine List.pairwise_filterMap.2<|hs.imp<|?_
  intro a b hne x hx y hy e
  subst e
  obtain⟨h1,e1⟩:=List.getElem?_eq_some_iff.1 hx
  obtain⟨h2,e2⟩:=List.getElem?_eq_some_iff.1 hy
  exact hne ((List.getElem_inj hL).1 (e1.trans e2.symm))
 ·obtain⟨i,hi,rfl⟩:=List.getElem_of_mem h
  exact List.mem_filterMap.2 ⟨i,ha i hi,List.getElem?_eq_getElem hi⟩
theorem OP{n:Nat}{seen:List Nat}(hs:seen.Nodup)(h:∀i∈seen,i<n):seen.length<=n:=by
 have h1:(seen.map λ_=>1).sum<=((List.range n).map λ_=>1).sum:=L6 (λ_=>1) seen (List.range n) hs (λx hx=>List.mem_range.2 (h x hx))
 rw[List.map_const',List.map_const',List.sum_replicate_nat,List.sum_replicate_nat,List.length_range] at h1
 omega
theorem JF{n i:Nat}{seen:List Nat}(hj:seen.Nodup/\∀i∈seen,i<n)(hi:i∉seen)(h:i<n):(seen++[i]).Nodup/\∀j∈seen++[i],j<n:=by
 refine⟨List.nodup_append.2 ⟨hj.1,by simp,λa ha b hb e=>?_⟩,λj hj'=>?_⟩
 ·rw[List.mem_singleton] at hb
  exact hi (by rw[<-hb,<-e];exact ha)
 ·rcases List.mem_append.1 hj' with h'|h'
  ·exact hj.2 j h'
  ·rw[List.mem_singleton] at h';omega
theorem aaF{e:EV}(hs:Sm e){L:List (ByteArray×V)}(hL:L.Perm (dh e)){seen:List Nat}(h:seen.length<=9):Fits (dY (pick L seen)):=by
 obtain⟨h1,h2,h3⟩:=hs.pairs
 have he:=Bv (pick L seen) (λp hp=>(h1 p (hL.mem_iff.1 (OO hp))).2.2)
 exact he.fits (by have:(pick L seen).length<=seen.length:=List.length_filterMap_le ..;omega)
def rA(l:List (ByteArray×V)):List (ByteArray×AV):=l.map λp=>(p.1,.agg (aC p.2))
theorem aaG{l:List (ByteArray×V)}{i:Nat}{s:ByteArray}{u:AV}(h:(rA l)[i]? =some (s,u)):∃v,l[i]? =some (s,v)/\u=.agg (aC v):=by
 unfold rA at h
 rw[List.getElem?_map] at h
 cases hl:l[i]? with
 |none=>rw[hl] at h;cases h
 |some p=>rw[hl] at h;cases h;exact⟨p.2,rfl,rfl⟩
theorem JG:∀{es:List (ByteArray×AV)} {l:List (ByteArray×V)},es.Perm (rA l)->∃l',l'.Perm l/\es=rA l'
 |[],l,h=>by
  cases l with
  |nil=>exact⟨[],.refl _,rfl⟩
  |cons p r=>exact absurd h.length_eq (by unfold rA;simp)
 |b::r,l,h=>by
  obtain⟨p,hp,e⟩:=List.mem_map.1 (h.mem_iff.1 (List.mem_cons_self ..))
  obtain⟨x,y,rfl⟩:=List.append_of_mem hp
  have h2:(rA (x++p::y)).Perm (b::rA (x++y)):=by
   unfold rA
   rw[List.map_append,List.map_cons,List.map_append,e]
   exact List.perm_middle
  obtain⟨l',h3,h4⟩:=JG (h.trans h2).cons_inv
  exact⟨p::l',(h3.cons p).trans List.perm_middle.symm,by rw[h4,<-e];rfl⟩
theorem mp84:D6 Tryz.prog 84=some 26:=by kernel_rfl
theorem mg(e:EV)(hs:Sm e)(H:Hp)(hG:fA H):au Tryz.prog 24 [.agg (gZ e)] H (bB H (.agg (aC (aL e)))):=by
 have hpa:∀H,au Tryz.prog 74 [strs e.bL] H (bB H (.agg (aC (fH e.bL)))):=λH=>Ib _ (by have:=hs.bL.1;omega) H
 have hpp:∀H,au Tryz.prog 74 [strs e.prev] H (bB H (.agg (aC (fH e.prev)))):=λH=>Ib _ (by have:=hs.prev.1;omega) H
 have hsd:∀L:List (ByteArray×V),L.Perm (dh e)->∀seen:List Nat,seen.Nodup->(∀i,i<(rA L).length->i∈seen)->∀H,fA H->au Tryz.prog 78 [.agg (aC (dY (pick L seen)))] H (bB H (.agg (aC (aL e)))):=λL hL seen h1 h2 H h=>by
  have hn:(L.map (·.1)).Nodup:=(hL.map _).nodup_iff.2 (pE e)
  rw[UA hn h1 (λi hi=>h2 i (by unfold rA;rwa [List.length_map])),Hd hn (pE e) λp=>hL.mem_iff]
  exact N8 _ hs.rd.fits hs.rd.CS H h
 have hw:∀L:List (ByteArray×V),L.Perm (dh e)->∀(seen:List Nat) (i:Nat) (s:ByteArray) (y:V),seen.Nodup/\(∀i∈seen,i<(rA L).length)->L[i]? =some (s,y)->∀H,au Tryz.prog 77 [.agg (aC (dY (pick L seen))),.v (.string s),.agg (aC y)] H (bB H (.agg (aC (dY (pick L (seen++[i])))))):=by
  intro L hL seen i s y hj hp H
  have hl:=OP hj.1 hj.2
  have hl9:=hs.pairs.2.1
  have hll:=hL.length_eq
  unfold rA at hl
  rw[List.length_map] at hl
  rw[Uz hp]
  exact xZ _ (aaF hs hL (by omega)) s y (hs.pairs.1 (s,y) (hL.mem_iff.1 (List.mem_of_getElem? hp))).2.2.1 H
 have hS1:e.is=false->∀es:List (ByteArray×AV),es.Perm [(fF,.agg (aC (fH e.bL))),(aO,.agg (aC e.body)),(dU,.agg (aC (fu e.depth))),(iK,.agg (aC (fu e.time))),(fK,.agg (aC (fH e.prev))),(fQ,.agg (aC (dz e.room))),(bQ,.agg (aC (dz e.sender))),(dN,.agg (aC (dz e.ty)))]->es.Perm (rA (dh e)):=λhi es h=>by
  unfold rA dh;rw[hi];exact h
 have hS2:e.is=true->∀es:List (ByteArray×AV),es.Perm [(fF,.agg (aC (fH e.bL))),(aO,.agg (aC e.body)),(dU,.agg (aC (fu e.depth))),(iK,.agg (aC (fu e.time))),(fK,.agg (aC (fH e.prev))),(fQ,.agg (aC (dz e.room))),(bQ,.agg (aC (dz e.sender))),(dN,.agg (aC (dz e.ty)))]->(es++[(dK,AV.agg (aC (dz e.key)))]).Perm (rA (dh e)):=λhi es h=>by
  unfold rA dh;rw[hi];exact h.append_right _
 have hno:∀es:List (ByteArray×AV),es.Perm [(fF,.agg (aC (fH e.bL))),(aO,.agg (aC e.body)),(dU,.agg (aC (fu e.depth))),(iK,.agg (aC (fu e.time))),(fK,.agg (aC (fH e.prev))),(fQ,.agg (aC (dz e.room))),(bQ,.agg (aC (dz e.sender))),(dN,.agg (aC (dz e.ty)))]->l6 es dK=none:=λes h=>Ic λhm=>by
  have:=(h.map (·.1)).mem_iff.1 hm
  exact absurd (kJ.2 (show dK∈[fF,aO,dU,iK,fK,fQ,bQ,dN] from this)) (by rw[show hasB [fF,aO,dU,iK,fK,fQ,bQ,dN] dK=false by kernel_rfl];decide)
 generalize dh e=L0 at*
 generalize aL e=mv at*
 obtain⟨eid,ty,key,is,sender,room,prev,bL,depth,time,body⟩:=e
 clear hs
 simp only at hpa hpp hS1 hS2 hno
 obtain⟨b0,b1,b2,b3,b4⟩:=body
 obtain⟨m0,m1,m2,m3,m4⟩:=mv
 refine aF (n:=52) (H0:=H) (I:=[]) Tryz.func24 (by kernel_rfl) U (by rw[Tryz.ntmps24];rfl) .nil<|?_
 refine Q.rg<|S.dd<|D.box U U U λp1=>S.dd<|D.al z26 U U U λp2=>Q.nt<|S.sq<|?_
 refine' UW.drawm (by kernel_rfl) [0,1] [0,0,2,6,15,0,32,97,0,256,782,1807,0,4096,14094,30479,0,65536,227086,489231,0,1048576,3634958,7829263,0,16777216,58160910,125269775,0,268435456,930576142,2004317967,4294967295,8589934591] [none,some 8,some 9,some 10,none,some 11,some 12,none,some 13,some 14,some 15,none,some 16,some 17,some 18,none,some 19,some 20,some 21,none,some 22,some 23,some 24,none,some 25,some 26,some 27,none,some 28,some 29,some 30,none,none,none] [none,some (8,_),some (9,_),some (10,_),none,some (11,_),some (12,_),none,some (13,_),some (14,_),some (15,_),none,some (16,_),some (17,_),some (18,_),none,some (19,_),some (20,_),some (21,_),none,some (22,_),some (23,_),some (24,_),none,some (25,_),some (26,_),some (27,_),none,some (28,_),some (29,_),some (30,_),none,none,none] 0 7 [(4,_,_),(7,_,_),(11,_,_),(15,_,_),(19,_,_),(23,_,_),(27,_,_),(31,_,_)] [4,7,11,15,19,23,27,31] [32,33] U U (by decide) (by decide) (by decide) (by decide) (by decide) mp84 U (by decide) ?q0x0_d (M.skip (M.free (by decide) U U ?qF (M.kept (by decide) U U ?qG (M.free (by decide) U U ?vJ (M.skip (M.free (by decide) U U ?vK (M.kept (by decide) U U ?vL (M.skip (M.free (by decide) U U ?vM (M.kept (by decide) U U ?vN (M.free (by decide) U U ?vO (M.skip (M.free (by decide) U U ?BJ (M.kept (by decide) U U ?BK (M.free (by decide) U U ?Mi (M.skip (M.free (by decide) U U ?Mj (M.kept (by decide) U U ?Mk (M.free (by decide) U U ?Ml (M.skip (M.free (by decide) U U ?Mm (M.kept (by decide) U U ?Mo (M.free (by decide) U U ?Mq (M.skip (M.free (by decide) U U ?Mr (M.kept (by decide) U U ?aaH (M.free (by decide) U U ?aaI (M.skip (M.free (by decide) U U ?aaJ (M.kept (by decide) U U ?aaK (M.free (by decide) U U ?aaL (M.skip (M.skip (M.skip M.nil)))))))))))))))))))))))))))))))))) ?q0x0_i ?Gi
 case qF=>(intro _;exact Z.fa o5 rfl)
 case qG=>(intro _ hK;exact Z.kc 1 hK dB rfl rfl rfl)
 case vJ=>(intro _;exact Z.call rfl rfl (λH=>hpa H))
 case vK=>(intro _;exact Z.fa vG rfl)
 case vL=>(intro _ hK;exact Z.ka 1 hK av rfl rfl rfl)
 case vM=>(intro _;exact Z.fa mX rfl)
 case vN=>(intro _ hK;exact Z.kc 1 hK lg rfl rfl rfl)
 case vO=>(intro _;exact Z.call rfl rfl (λ_=>OM _ _))
 case BJ=>(intro _;exact Z.fa mY rfl)
 case BK=>(intro _ hK;exact Z.kc 1 hK lg rfl rfl rfl)
 case Mi=>(intro _;exact Z.call rfl rfl (λ_=>OM _ _))
 case Mj=>(intro _;exact Z.fa oH rfl)
 case Mk=>(intro _ hK;exact Z.kc 1 hK dB rfl rfl rfl)
 case Ml=>(intro _;exact Z.call rfl rfl (λH=>hpp H))
 case Mm=>(intro _;exact Z.fa HV rfl)
 case Mo=>(intro _ hK;exact Z.kc 1 hK dW rfl rfl rfl)
 case Mq=>(intro _;exact Z.call rfl rfl (λ_=>qA _ _))
 case Mr=>(intro _;exact Z.fa Hz rfl)
 case aaH=>(intro _ hK;exact Z.kc 1 hK dW rfl rfl rfl)
 case aaI=>(intro _;exact Z.call rfl rfl (λ_=>qA _ _))
 case aaJ=>(intro _;exact Z.fa qW rfl)
 case aaK=>(intro _ hK;exact Z.kc 1 hK dW rfl rfl rfl)
 case aaL=>(intro _;exact Z.call rfl rfl (λ_=>qA _ _))
 case q0x0_i=>exact qY.cons rfl<|qY.cons rfl<|qY.cons rfl<|qY.cons rfl<|qY.cons rfl<|qY.cons rfl<|qY.cons rfl<|qY.cons rfl<|trivial
 case q0x0_d=>(simp only[List.map];decide)
 intro p7 es7 hes7
 refine CH.cons U U (by decide) ?_ (.c 1 U (.c 2 U .n))
 refine D.qu (Z.mv U)<|?_
 refine CH.cons U U (by decide) ?_ (.c 1 U (.c 2 U .n))
 refine D.qu (Z.as U)<|?_
 refine CH.nil ?_ (.c 1 U (.c 2 U .n))
 simp only[app,bS]
 refine UQ.then<|?_
 refine S.E5 (λes:List (ByteArray×AV)=>[(3,.mpr p7),(2,.ptr p2 0)]) (λes=>[(p7,.mp es),(p2,.box 26 (aC zeroV))]) (λes=>es.Perm (rA L0)) ?_ (λes hes=>?_)
 refine Q.rg<|Q.fa jW U<|Q.lc 2 oo U U U<|Q.nt<|?_
 refine S.cB U (λTm=>?_) (λTm=>?_)
 refine S.rg<|Q.mv U<|Q.fa sD U<|Q.lc 2 dW U U U<|S.qu (Z.call U U (λ_=>qA _ _))<|S.s<|D.mup 0 mp84 U U U U (hno _ (by assumption)) U λ_=>?_
 refine US.nil<|?_
 refine S.iD _ ⟨rfl,rfl,trivial⟩ (by repeat (first|exact List.Sublist.refl _|exact List.nil_sublist _|refine .cons_cons _ ?_|refine .cons _ ?_)) (hS2 Tm _ (by assumption))
 refine UW.skip<|?_
 refine S.iD _ ⟨rfl,rfl,trivial⟩ (by repeat (first|exact List.Sublist.refl _|exact List.nil_sublist _|refine .cons_cons _ ?_|refine .cons _ ?_)) (hS1 Tm _ (by assumption))
 (obtain⟨L,hL,rfl⟩:=JG hes;refine S.sq ?_)
 refine S.rg<|S.qu (Z.bd [0] gU U U U U U U)<|S.dd<|D.al z26 U U U λp4=>S.s<|D.st 0 av U U U U U U U U λ_=>Q.nt<|S.sq<|Q.rg<|Q.mv U<|S.dd<|D.rgm 1 mp84 U U λp40=>Q.nt<|UW.block<|?_
 refine S.loop (λ_:List Nat=>[(40,.ptr p40 0),(4,.ptr p4 0),(2,.ptr p2 0)]) (λseen=>[(p40,.Ah p7 (rA L).length seen),(p4,.box 26 (aC (dY (pick L seen)))),(p7,.mp (rA L)),(p2,.box 26 (aC zeroV))]) (λseen=>seen.Nodup/\∀i∈seen,i<(rA L).length) (λseen=>(rA L).length-seen.length) [] ⟨List.nodup_nil,λi h=>by cases h⟩ ⟨rfl,rfl,rfl,trivial⟩ (by repeat (first|exact List.Sublist.refl _|exact List.nil_sublist _|refine .cons_cons _ ?_|refine .cons _ ?_)) ?_
 rintro seen hj
 have hsd':=hsd L hL seen hj.1
 have hw':=hw L hL seen
 generalize dY (pick L seen)=v at*
 obtain⟨v0,v1,v2,v3,v4⟩:=v
 focus
  refine Q.rg<|?_
  refine S.dd (D.nxm 0 2 U U U U (λh41=>?_) (λih41 sh41 uh41 hih41 heh41=>?_))
  refine S.qu (Z.ex U U)<|Q.nt<|S.sq<|S.cF U U<|UW.exit<|UQ.pass<|UQ.pass<|UQ.here<|UQ.then<|Q.rg<|S.qu (Z.bW 1 av U U U)<|S.qu (Z.bK U U (λ_ hS=>hsd' (by assumption) _ (hG.mono hS)))<|?_
  refine S.s<|D.st 3 av U U U U U U U U λ_=>Q.nt<|UW.ret<|S.bH (λhd=>aX (k:=3) hd U U U gQ gT)<|?_
  rfl
  refine S.qu (Z.ex U U)<|Q.nt<|S.sq<|S.cT U U<|UW.skip<|UQ.then<|UW.block<|Q.rg<|S.qu (Z.ent 0 2 U U U U (by assumption))<|?_
  obtain⟨y,hy,rfl⟩:=aaG (by assumption)
  refine S.qu (Z.ex U U)<|S.qu (Z.ex U U)<|S.dd<|D.al z26 U U U λp6=>Q.as U<|S.s<|D.vW 0 av U U U U (by exact az _) (Y _) U U λ_=>?_
  refine Q.nt<|S.rg<|S.qu (Z.bW 2 av U U U)<|Q.mv U<|S.qu (Z.bW 0 av U U (Y _))<|S.qu (Z.call U U (λH=>hw' _ _ _ hj (by assumption) H))<|?_
  refine S.s<|D.vW 2 av U U U U (by exact az _) (Y _) U U λ_=>?_
  refine US.nil<|UQ.aB<|?_
  refine S.back (seen++[_]) ⟨rfl,rfl,rfl,trivial⟩ (by repeat (first|exact List.Sublist.refl _|exact List.nil_sublist _|refine .cons_cons _ ?_|refine .cons _ ?_)) ?_ ?_
  rotate_left
  rotate_left
 ·exact JF hj hih41 (List.getElem?_eq_some_iff.1 heh41).1
 ·have h9:=JF hj hih41 (List.getElem?_eq_some_iff.1 heh41).1
  have:=OP h9.1 h9.2
  rw[List.length_append] at this⊢
  show _-(_+1)<_
  have:seen.length+1<=(rA L).length:=this
  omega
theorem Ie(l:List ByteArray)(hl:l.length<=1000000)(H:Hp):au Tryz.prog 43 [strs l] H (bB H (strs l)):=by
 refine(Fa l (by omega) H).post<|?_
 rintro u H1 ⟨news,hd,rfl,i,rfl,rfl⟩
 refine⟨strs l,H,lC hd,?_,rfl,rfl⟩
 have:=Fe hd (k:=0) U
 exact this
theorem xJ(e:EV)(hs:Sm e)(H:Hp)(hG:fA H):au Tryz.prog 12 [.agg (gZ e)] H (bB H (.agg (gZ {e with id:=oI (aL e)}))):=by
 have hm:∀H,fA H->au Tryz.prog 24 [.agg (gZ e)] H (bB H (.agg (aC (aL e)))):=λH h=>mg e hs H h
 have hi:∀H,fA H->au Tryz.prog 42 [.agg (aC (aL e))] H (bB H (.v (.string (oI (aL e))))):=λH h=>Sq _ hs.make.fits hs.make.prR H h
 have hp1:∀H,au Tryz.prog 43 [strs e.prev] H (bB H (strs e.prev)):=λH=>Ie _ (by have:=hs.prev.1;omega) H
 have hp2:∀H,au Tryz.prog 43 [strs e.bL] H (bB H (strs e.bL)):=λH=>Ie _ (by have:=hs.bL.1;omega) H
 have hcp:∀H,au Tryz.prog 44 [.agg (aC e.body)] H (bB H (.agg (aC e.body))):=λH=>jF (kT _ hs.fits H)
 generalize oI (aL e)=i at*
 generalize aL e=m at*
 obtain⟨eid,ty,key,is,sender,room,prev,bL,depth,time,body⟩:=e
 clear hs
 simp only at hp1 hp2 hcp
 obtain⟨m0,m1,m2,m3,m4⟩:=m
 obtain⟨b0,b1,b2,b3,b4⟩:=body
 refine aF (n:=20) (H0:=H) (I:=[]) Tryz.func12 (by kernel_rfl) U (by rw[Tryz.ntmps12];rfl) .nil<|?_
 refine Q.rg<|S.dd<|D.box U U U λp1=>S.dd<|D.al z28 U U U λp2=>Q.nt<|Q.rg<|S.qu (Z.bW 1 di U U U)<|S.qu (Z.bK U U (λ_ hS=>hm _ (hG.mono hS)))<|S.qu (Z.bK U U (λ_ hS=>hi _ (hG.mono hS)))<|Q.fa su U<|S.s<|D.st 1 dW U U U U U U U U λ_=>Q.nt<|S.sq<|?_
 refine' UW.bG (by kernel_rfl) [0,1,3,0,8,31,0,64,255,223,1023,2047,4095,8191,16383] [some 7,some 8,some 9,some 10,some 11,some 12,some 13,some 14,some 15,some 16,none,none,none,none,none] [some (7,_),some (8,_),some (9,_),some (10,_),some (11,_),some (12,_),some (13,_),some (14,_),some (15,_),some (16,_),none,none,none,none,none] [10,11,12,13,14] [1,4,7] U (by decide) (by decide) (M.free (by decide) U U ?uV (M.held (by decide) U U ?qF (M.free (by decide) U U ?qG (M.free (by decide) U U ?vJ (M.held (by decide) U U ?Ac (M.free (by decide) U U ?vK (M.free (by decide) U U ?vL (M.held (by decide) U U ?Ad (M.free (by decide) U U ?vM (M.free (by decide) U U ?vN (M.skip (M.skip (M.skip (M.skip (M.skip M.nil))))))))))))))) ?Gi
 case uV=>(intro _;exact Z.fa oH rfl)
 case qF=>exact Z.dM 1 dB rfl rfl rfl
 case qG=>(intro _;exact Z.call rfl rfl (λH=>hp1 H))
 case vJ=>(intro _;exact Z.fa o5 rfl)
 case Ac=>exact Z.dM 1 dB rfl rfl rfl
 case vK=>(intro _;exact Z.call rfl rfl (λH=>hp2 H))
 case vL=>(intro _;exact Z.fa vG rfl)
 case Ad=>exact Z.SN 1 av rfl rfl rfl
 case vM=>(intro _;exact Z.call rfl rfl (λH=>hcp H))
 case vN=>(intro _;exact Z.fa oH rfl)
 refine CH.bX U U<|D.st 1 dB U U U U U U U U λ_=>CH.cons U U (by decide)<|D.qu (Z.fa o5 U)<|CH.bX U U<|D.st 1 dB U U U U U U U U λ_=>CH.cons U U (by decide)<|D.qu (Z.fa vG U)<|CH.bX U U<|D.st 1 av U U U U U U U U λ_=>CH.nil<|?_
 simp only[app,bS]
 refine UQ.then<|Q.rg<|S.qu (Z.bW 1 di U U U)<|S.s<|D.st 0 di U U U U U U U U λ_=>Q.nt<|UW.ret<|S.bH (λhd=>aX (k:=0) hd U U U Iw Iy)<|?_
 rfl
theorem OQ(e:EV)(hs:Sm e)(H:Hp)(hG:fA H):au Tryz.prog 29 [.agg (gZ e)] H (bB H (.v (.string (aR (aL e))))):=by
 have hm:∀H,fA H->au Tryz.prog 24 [.agg (gZ e)] H (bB H (.agg (aC (aL e)))):=λH h=>mg e hs H h
 have hi:∀H,fA H->au Tryz.prog 66 [.agg (aC (aL e))] H (bB H (.v (.string (aR (aL e))))):=λH h=>vo _ hs.make.fits hs.make.pr H h
 generalize aR (aL e)=i at*
 generalize aL e=m at*
 obtain⟨eid,ty,key,is,sender,room,prev,bL,depth,time,body⟩:=e
 clear hs
 obtain⟨m0,m1,m2,m3,m4⟩:=m
 obtain⟨b0,b1,b2,b3,b4⟩:=body
 refine aF (n:=6) (H0:=H) (I:=[]) Tryz.func29 (by kernel_rfl) U (by rw[Tryz.ntmps29];rfl) .nil<|?_
 refine Q.rg<|S.dd<|D.box U U U λp1=>Q.as U<|Q.nt<|Q.rg<|S.qu (Z.bW 0 di U U U)<|S.qu (Z.bK U U (λ_ hS=>hm _ (hG.mono hS)))<|S.qu (Z.bK U U (λ_ hS=>hi _ (hG.mono hS)))<|Q.as U<|Q.nt<|UW.ret<|S.bH (λ_=>ak U U)<|?_
 rfl
theorem yD(a b:Int)(ha:0<=a/\a<256)(hb:0<=b/\b<256)(H:Hp):au Tryz.prog 23 [.v (.int .u8 a),.v (.int .u8 b)] H (bB H (.v (.string (fq a b)))):=by
 have h0:(bC (List.replicate 32 0)).set 0 [.v (.int .u8 a)]=bC (a::List.replicate 31 0):=by rw[Be];rfl
 have h1:(bC (a::List.replicate 31 0)).set 31 [.v (.int .u8 b)]=bC (jC a b):=by rw[Be];rfl
 have hz0:=lJ (List.replicate 32 (0:Int))
 have hl0:(bC (List.replicate 32 (0:Int))).length=32:=by rw[dD];rfl
 have hz1:=lJ (a::List.replicate 31 (0:Int))
 have hl1:(bC (a::List.replicate 31 (0:Int))).length=32:=by rw[dD];rfl
 have hl2:(bC (jC a b)).length=32:=by rw[dD,pX]
 have ht:=λH=>xg (jC a b) (by rw[pX];decide) (ug ha hb) H
 have hsz:=l9 a b
 unfold fq at*
 have h36:(⟨#[36]⟩:ByteArray).size=1:=rfl
 have hts:(dO (jC a b)).size<=1000:=by rw[bf] at hsz;omega
 generalize dO (jC a b)=t at*
 refine aF (n:=16) (H0:=H) (I:=[]) Tryz.func23 (by kernel_rfl) U (by rw[Tryz.ntmps23];rfl) .nil<|?_
 refine Q.rg<|Q.as U<|Q.nt<|Q.rg<|S.dd<|D.mkz 32 U U (by omega) λp6=>Q.as U<|Q.nt<|Q.rg<|Q.mv U<|Q.mv U<|S.qu (Z.io cK U U (by omega) (by omega))<|S.s<|D.sre 0 (m:=0) oW U U U (by omega) U U U U hz0 h0 λ_=>Q.nt<|Q.rg<|Q.mv U<|Q.mv U<|S.qu (Z.io cK U U (by omega) (by omega))<|S.s<|D.sre 0 (m:=31) oW U U U (by omega) U U U U hz1 h1 λ_=>Q.nt<|Q.rg<|Q.mv U<|US.fV 13 0 (rs:=bC (jC a b)) U U (by omega) (by rw[List.drop_zero];exact List.take_of_length_le (by omega))<|?_
 refine S.qu (Z.call U U (λH=>ht H))<|S.qu (Z.cat U U (by omega))<|Q.as U<|Q.nt<|UW.ret<|S.bH (λ_=>ak U U)<|?_
 rfl
def Ex(f:Nat->Int)(k:Int)(m:Nat):List ByteArray:=(List.range m).map λi=>fq (f i) k
theorem BL(f:Nat->Int)(k:Int)(m:Nat):(Ex f k m).length=m:=by unfold Ex;simp
theorem xK(f:Nat->Int)(k:Int)(m:Nat):((Ex f k m).map encS).length=m:=by rw[List.length_map,BL]
theorem Ig(f:Nat->Int)(k:Int)(j:Nat):((Ex f k j).map encS).take j++[encS (fq (f j) k)]=(Ex f k (j+1)).map encS:=by
 rw[List.take_of_length_le (by rw[xK];exact Nat.le_refl _)]
 unfold Ex
 rw[List.range_succ,List.map_append,List.map_append];rfl
theorem Ey(f:Nat->Int)(k:Int)(j:Nat):(((Ex f k j).map encS).drop 0).take j=(Ex f k j).map encS:=by
 rw[List.drop_zero,List.take_of_length_le (by rw[xK];exact Nat.le_refl _)]
theorem vP(c:List Int)(hc:wy c)(k:Int)(hk0:0<=k)(hk1:k<256)(H:Hp):au Tryz.prog 13 [yM c,.v (.int .u8 k)] H (bB H (.agg (gZ (dx c k)))):=by
 have hn:=oC hc 0
 have hkind:=λH=>Ue k hk0 hk1 H
 have hbody:=λH=>Uf c hc k hk0 hk1 H
 have hg1:c.length=0->c.getD 0 0=0:=λh=>by rw[List.eq_nil_of_length_eq_zero h];rfl
 have hg0:0<c.length->(c.map wY)[0]? =some (wY (c.getD 0 0)):=λh=>by rw[List.getElem?_map,List.getElem?_eq_getElem h,getD_at h];rfl
 have yE:(c.map wY).length=c.length:=List.length_map ..
 have hf:∀j:Nat,(j:Int)<256->∀H,au Tryz.prog 23 [.v (.int .u8 (j:Int)),.v (.int .u8 k)] H (bB H (.v (.string (fq (j:Int) k)))):=λj hj H=>yD _ _ ⟨by omega,hj⟩ ⟨hk0,hk1⟩ H
 have hf2:∀j:Nat,(j:Int)<100->∀H,au Tryz.prog 23 [.v (.int .u8 (100+(j:Int))),.v (.int .u8 k)] H (bB H (.v (.string (fq (100+(j:Int)) k)))):=λj hj H=>yD _ _ ⟨by omega,by omega⟩ ⟨hk0,hk1⟩ H
 unfold dx prevC authC
 unfold yM at*
 generalize Jl k=kd at*
 generalize Jm c k=b at*
 generalize c.getD 0 0=n at*
 have m0:=Int.tmod_nonneg 4 hn.1
 have m1:=Int.tmod_lt_of_pos n (by decide:(0:Int)<4)
 have m2:=Int.tmod_nonneg 3 hn.1
 have m3:=Int.tmod_lt_of_pos n (by decide:(0:Int)<3)
 have m4:=Int.tmod_nonneg 5 hn.1
 have m5:=Int.tmod_lt_of_pos n (by decide:(0:Int)<5)
 have m6:0<=n.tdiv 4:=by rw[Int.tdiv_eq_ediv_of_nonneg hn.1];omega
 have m7:=Int.tmod_nonneg 4 m6
 have m8:=Int.tmod_lt_of_pos (n.tdiv 4) (by decide:(0:Int)<4)
 obtain⟨p,hp⟩:∃p:Nat,n.tmod 4=(p:Int):=⟨_,(Int.toNat_of_nonneg m0).symm⟩
 obtain⟨q,hq⟩:∃q:Nat,(n.tdiv 4).tmod 4=(q:Int):=⟨_,(Int.toNat_of_nonneg m7).symm⟩
 have hwq:IntKind.i64.wrap (n.tdiv 4)=n.tdiv 4:=IntWalk.i64_in _ (by rw[Int.tdiv_eq_ediv_of_nonneg hn.1];omega)
 rw[hp,hq]
 simp only[Int.toNat_natCast]
 have hkd:=λh:n.tmod 5<3=>l8 Hu (n.tmod 5).toNat (by show _<3;omega)
 have hsd:=l8 pF (n.tmod 3).toNat (by show _<3;omega)
 generalize pF.getD (n.tmod 3).toNat ⟨#[]⟩=sd at*
 obtain⟨b0,b1,b2,b3,b4⟩:=b
 refine aF (n:=74) (H0:=H) (I:=[]) Tryz.func13 (by kernel_rfl) U (by rw[Tryz.ntmps13];rfl) .nil<|?_
 refine Q.rg<|S.dd<|D.al z28 U U U λp4=>Q.nt<|Q.rg<|Q.as U<|Q.nt<|?_
 refine S.E5 (λq:Int=>[(5,.v (.int .i64 q)),(4,.ptr p4 0),(0,.sl (c.map wY)),(1,.v (.int .u8 k))]) (λ_=>[(p4,.box 28 (gZ zeroE))]) (λx=>x=n) ?_ (λx hx=>?_)
 refine Q.rg<|Q.mv U<|S.qu (Z.fM cK U)<|Q.bi U U U<|Q.nt<|?_
 refine S.cD U (λvY=>?_) (λvY=>?_)
 refine S.rg<|Q.mv U<|S.qu (Z.ia cK U U (by omega) (hg0 (by omega)) (by rfl))<|?_
 refine S.qu (Z.fO oW U)<|S.qu (Z.cv Tryz.underlying3 U (IntWalk.i64_in _ (by omega)) (by rw[Tryz.underlying5];rfl))<|?_
 refine Q.as U<|US.nil<|?_
 refine S.iD _ ⟨rfl,rfl,rfl,rfl,trivial⟩ (.refl _) U
 refine UW.skip<|?_
 refine S.iD _ ⟨rfl,rfl,rfl,rfl,trivial⟩ (.refl _) (hg1 (by omega)).symm
 (have hx2:=hx.symm;subst hx2;refine S.sq ?_)
 refine' UW.rO (by kernel_rfl) [0] [0,1,0,0,8,28,60,0,0,256,768,0,0,6147,16383,0,65535] [some 16,some 17,some 18,some 19,some 20,some 21,some 22,some 23,some 24,some 25,some 26,some 27,some 28,some 29,some 30,none,none] [some (16,_),some (17,_),some (18,_),some (19,_),some (20,_),some (21,_),some (22,_),some (23,_),some (24,_),some (25,_),some (26,_),some (27,_),some (28,_),some (29,_),some (30,_),none,none] [15,16] [] U (by decide) (by decide) (M.free (by decide) U U ?iU (M.free (by decide) U U ?iV (M.free (by decide) U U ?iW (M.free (by decide) U U ?iX (M.free (by decide) U U ?iY (M.free (by decide) U U ?iZ (M.kept (by decide) U U ?ja (M.free (by decide) U U ?kH (M.free (by decide) U U ?nL (M.free (by decide) U U ?qB (M.free (by decide) U U ?mK (M.free (by decide) U U ?pg (M.free (by decide) U U ?AR (M.free (by decide) U U ?AU (M.free (by decide) U U ?AX (M.skip (M.skip M.nil))))))))))))))))) ?sI
 case iU=>(intro _;exact Z.mv rfl)
 case iV=>(intro _;exact Z.call rfl rfl (λH=>hkind H))
 case iW=>(intro _;exact Z.eq (u':=strs pF) (Z.bl dQ rfl rfl (bz rfl)) rfl)
 case iX=>(intro _;exact Z.mv rfl)
 case iY=>(intro _;exact Z.bi rfl rfl rfl)
 case iZ=>(intro _;exact Z.ia aZ rfl rfl (by omega) hsd (by rfl))
 case ja=>(intro _ hK;exact Z.fO dW rfl)
 case kH=>(intro _;exact Z.mv rfl)
 case nL=>(intro _;exact Z.mv rfl)
 case qB=>(intro _;exact Z.cv Tryz.underlying2 rfl (IntWalk.i64_in _ (by omega)) (by rw[Tryz.underlying5];rfl))
 case mK=>(intro _;exact Z.mul (r:=k*3) rfl rfl (IntWalk.i64_in _ (by omega)))
 case pg=>(intro _;exact Z.mv rfl)
 case AR=>(intro _;exact Z.mv rfl)
 case AU=>(intro _;exact Z.call rfl rfl (λH=>hbody H))
 case AX=>(intro _;exact Z.bdp [1,4,5,8,9,10] wh rfl rfl rfl rfl rfl)
 refine CH.cons U U (by decide) ?_ (.c 0 U .n)
 refine D.al z28 U U U λp6=>?_
 refine CH.bX U U ?_ (.c 1 U .n)
 refine D.st 0 di U U U U U U U U λ_=>?_
 refine CH.nil ?_ (.c 1 U .n)
 simp only[app,bS]
 refine UQ.then<|UW.rR 0 6 9 (sz:=1) (by decide) U U λid=>S.sq<|Q.rg<|Q.as U<|Q.nt<|UW.block<|S.loop (λs:Nat×Nat=>[(7,.v (.int .i64 (s.1:Int))),(6,.ptr p6 0),(5,.v (.int .i64 n)),(4,.ptr p4 0),(1,.v (.int .u8 k))]) (λs=>[(s.2,.row 9 1 ((Ex (λi=>(i:Int)) k s.1).map encS)),(p6,.box 28 [.v (.string ⟨#[]⟩),.v (.string kd),.v (.string ⟨#[]⟩),.v (.bool false),.v (.string sd),.v (.string DJ),.own s.2 0 s.1 1,.v (.slice none 0 0),.v (.int .i64 n),.v (.int .i64 (k*3)),.v (.int .i64 b0),.v (.int .i64 b1),.v (.string b2),.sl (b3.map encS),.sl (bu b4)]),(p4,.box 28 (gZ zeroE))]) (λs=>s.1<=p) (λs=>p-s.1) (0,id) (Nat.zero_le _) ⟨rfl,rfl,rfl,rfl,rfl,trivial⟩ (.refl _)<|?_
 rintro⟨j,Xm⟩ hj
 simp only at hj
 simp only
 have hrl:=xK (λi=>(i:Int)) k j
 by_cases hjl:j<p
 ·refine S.sq<|Q.rg<|Q.mv U<|Q.mv U<|S.qu (Z.eq (u':=.v (.int .i64 (p:Int))) (Z.bi U U U) (by rw[hp]))<|?_
  refine Q.bi U U U<|Q.nt<|S.cT U (decide_eq_true (by omega))<|UW.skip<|UQ.then<|S.sq<|UW.block<|?_
  refine' UW.bG (by kernel_rfl) [0,1,0,4,0,28,60,127,255,511] [some 37,some 38,some 39,some 40,some 41,some 42,some 43,none,none,none] [some (37,_),some (38,_),some (39,_),some (40,_),some (41,_),some (42,_),some (43,_),none,none,none] [7,8,9] [1] U (by decide) (by decide) (M.free (by decide) U U ?jG (M.held (by decide) U U ?jH (M.free (by decide) U U ?jI (M.free (by decide) U U ?jJ (M.free (by decide) U U ?jK (M.free (by decide) U U ?kE (M.free (by decide) U U ?nK (M.skip (M.skip (M.skip M.nil)))))))))) ?uH
  case jG=>(intro _;exact Z.fa oH rfl)
  case jH=>exact Z.dM 1 dB rfl rfl rfl
  case jI=>(intro _;exact Z.mv rfl)
  case jJ=>(intro _;exact Z.cv Tryz.underlying5 rfl (IntWalk.u8_in _ (by omega)) (by rw[Tryz.underlying3];rfl))
  case jK=>(intro _;exact Z.mv rfl)
  case kE=>(intro _;exact Z.call rfl rfl (λH=>hf j (by omega) H))
  case nK=>(intro _;exact Z.bl dQ rfl rfl (bz rfl))
  refine CH.cons U U (by decide)<|D.ap 0 dQ U U (by omega) U (.sl (kz U)) (by simp;omega) (Ig _ _ _) λp44=>?_
  refine CH.cons U U (by decide)<|D.qu (Z.fa oH U)<|CH.bX U U<|D.st 1 dB U U U U U U U U λ_=>CH.nil<|?_
  simp only[app,bS]
  refine UQ.aB<|UQ.then<|S.rg<|Q.mv U<|S.qu (Z.add (r:=((j+1:Nat):Int)) U U (IntWalk.i64_in _ (by omega)))<|Q.as U<|US.nil<|?_
  refine S.back (j+1,_) ⟨rfl,rfl,rfl,rfl,rfl,trivial⟩ (.refl _) (by omega) (by omega)
 ·have hjp:j=p:=by omega
  subst hjp
  refine S.sq<|Q.rg<|Q.mv U<|Q.mv U<|S.qu (Z.eq (u':=.v (.int .i64 (j:Int))) (Z.bi U U U) (by rw[hp]))<|?_
  refine Q.bi U U U<|Q.nt<|S.cF U (decide_eq_false (by omega))<|UW.exit<|UQ.pass<|UQ.pass<|UQ.here<|UQ.then<|UW.rR 1 7 9 (sz:=1) (by decide) U U λkP=>S.sq<|Q.rg<|Q.as U<|Q.nt<|UW.block<|S.loop (λs:Nat×Nat=>[(8,.v (.int .i64 (s.1:Int))),(6,.ptr p6 0),(5,.v (.int .i64 n)),(4,.ptr p4 0),(1,.v (.int .u8 k))]) (λs=>[(s.2,.row 9 1 ((Ex (λi=>100+(i:Int)) k s.1).map encS)),(Xm,.row 9 1 ((Ex (λi=>(i:Int)) k j).map encS)),(p6,.box 28 [.v (.string ⟨#[]⟩),.v (.string kd),.v (.string ⟨#[]⟩),.v (.bool false),.v (.string sd),.v (.string DJ),.own Xm 0 j 1,.own s.2 0 s.1 1,.v (.int .i64 n),.v (.int .i64 (k*3)),.v (.int .i64 b0),.v (.int .i64 b1),.v (.string b2),.sl (b3.map encS),.sl (bu b4)]),(p4,.box 28 (gZ zeroE))]) (λs=>s.1<=q) (λs=>q-s.1) (0,kP) (Nat.zero_le _) ⟨rfl,rfl,rfl,rfl,rfl,trivial⟩ (.refl _)<|?_
  rintro⟨i,id3⟩ hi
  simp only at hi
  simp only
  have hrl2:=xK (λi=>100+(i:Int)) k i
  by_cases hil:i<q
  ·refine S.sq<|Q.rg<|Q.mv U<|Q.mv U<|Q.bi U U U<|S.qu (Z.eq (u':=.v (.int .i64 (q:Int))) (Z.bi U U U) (by rw[hwq,hq]))<|?_
   refine Q.bi U U U<|Q.nt<|S.cT U (decide_eq_true (by omega))<|UW.skip<|UQ.then<|S.sq<|UW.block<|?_
   refine' UW.bG (by kernel_rfl) [0,1,0,4,12,0,60,124,255,511,1023] [some 53,some 54,some 55,some 56,some 57,some 58,some 59,some 60,none,none,none] [some (53,_),some (54,_),some (55,_),some (56,_),some (57,_),some (58,_),some (59,_),some (60,_),none,none,none] [8,9,10] [1] U (by decide) (by decide) (M.free (by decide) U U ?nA (M.held (by decide) U U ?nC (M.free (by decide) U U ?nD (M.free (by decide) U U ?nE (M.free (by decide) U U ?qC (M.free (by decide) U U ?qp (M.free (by decide) U U ?qw (M.free (by decide) U U ?qx (M.skip (M.skip (M.skip M.nil))))))))))) ?Cf
   case nA=>(intro _;exact Z.fa o5 rfl)
   case nC=>exact Z.dM 2 dB rfl rfl rfl
   case nD=>(intro _;exact Z.mv rfl)
   case nE=>(intro _;exact Z.add rfl rfl (IntWalk.i64_in _ (by omega)))
   case qC=>(intro _;exact Z.cv Tryz.underlying5 rfl (IntWalk.u8_in _ (by omega)) (by rw[Tryz.underlying3];rfl))
   case qp=>(intro _;exact Z.mv rfl)
   case qw=>(intro _;exact Z.call rfl rfl (λH=>hf2 i (by omega) H))
   case qx=>(intro _;exact Z.bl dQ rfl rfl (bz rfl))
   refine CH.cons U U (by decide)<|D.ap 0 dQ U U (by omega) U (.sl (kz U)) (by simp;omega) (Ig _ _ _) λp61=>?_
   refine CH.cons U U (by decide)<|D.qu (Z.fa o5 U)<|CH.bX U U<|D.st 2 dB U U U U U U U U λ_=>CH.nil<|?_
   simp only[app,bS]
   refine UQ.aB<|UQ.then<|S.rg<|Q.mv U<|S.qu (Z.add (r:=((i+1:Nat):Int)) U U (IntWalk.i64_in _ (by omega)))<|Q.as U<|US.nil<|?_
   refine S.back (i+1,_) ⟨rfl,rfl,rfl,rfl,rfl,trivial⟩ (.refl _) (by omega) (by omega)
  ·have hip:i=q:=by omega
   subst hip
   focus
    refine S.sq<|Q.rg<|Q.mv U<|Q.mv U<|Q.bi U U U<|S.qu (Z.eq (u':=.v (.int .i64 (i:Int))) (Z.bi U U U) (by rw[hwq,hq]))<|?_
    refine Q.bi U U U<|Q.nt<|S.cF U (decide_eq_false (by omega))<|UW.exit<|UQ.pass<|UQ.pass<|UQ.here<|UQ.then<|S.sq<|Q.rg<|Q.mv U<|Q.bi U U U<|Q.bi U U U<|Q.nt<|?_
    refine S.cD U (λFD=>?_) (λFD=>?_)
    refine Q.rg<|Q.fa jW U<|S.s<|D.st 2 oo U U U U U U U U λ_=>Q.nt<|S.rg<|S.qu (Z.eq (u':=strs Hu) (Z.bl dQ U U (bz U)) U)<|Q.mv U<|Q.bi U U U<|S.qu (Z.ia aZ U U (by omega) (hkd (by omega)) (by rfl))<|?_
    refine S.qu (Z.fO dW U)<|Q.fa sD U<|S.s<|D.st 2 dW U U U U U U U U λ_=>Q.nt<|Q.rg<|S.qu (Z.bW 2 di U U U)<|US.wK 73 7 0 U U U (by omega) (Ey _ _ _) U<|US.wK 73 6 0 U U U (by omega) (Ey _ _ _) U<|S.s<|D.st 1 di U U U U U U U U λ_=>Q.nt<|UW.ret<|S.bH (λhd=>aX (k:=1) hd U U U Iw Iy)<|?_
    rotate_left
    refine UW.skip<|UQ.then<|Q.rg<|S.qu (Z.bW 2 di U U U)<|US.wK 73 7 0 U U U (by omega) (Ey _ _ _) U<|US.wK 73 6 0 U U U (by omega) (Ey _ _ _) U<|S.s<|D.st 1 di U U U U U U U U λ_=>Q.nt<|UW.ret<|S.bH (λhd=>aX (k:=1) hd U U U Iw Iy)<|?_
    rotate_left
   ·rw[if_pos FD,decide_eq_true FD];rfl
   ·rw[if_neg FD,decide_eq_false FD];rfl
theorem WX{e:EV}(h:Sm e)(i:ByteArray):Sm {e with id:=i}:=⟨h.prev,h.bL,h.txt,h.num,h.wt,h.deep,h.fits,h.o,h.few⟩
theorem WY{e:EV}(h:D9 e)(i:ByteArray):D9 {e with id:=i}:=⟨WX h.toSm i,h.user,h.rm,h.pa,h.aa,h.b5⟩
theorem WZ{e:EV}(hb:e.body=lN)(hp:e.prev.length<=24/\∀s∈e.prev,s.size<=44/\jc s=true)(ha:e.bL.length<=24/\∀s∈e.bL,s.size<=44/\jc s=true)(ht:e.ty.size<=100/\e.key.size<=100)
 (hn:(-9223372036854775808<=e.depth/\e.depth<=9223372036854775807)/\ -9223372036854775808<=e.time/\e.time<=9223372036854775807) (hu:hasB yR e.sender=true) (hr:hasB DK e.room=true):D9 e:=by
 have hu':=kJ.1 hu
 have hr':=kJ.1 hr
 have hul:∀s∈yR,s.size<=100:=by decide
 have hrl:∀s∈DK,s.size<=100:=by decide
 refine⟨⟨⟨hp.1,λs h=>(hp.2 s h).1⟩,⟨ha.1,λs h=>(ha.2 s h).1⟩,⟨ht.1,ht.2,hul _ hu',hrl _ hr'⟩,hn,?_,?_,?_,?_,?_⟩,hu',hr',λs h=>(hp.2 s h).2,λs h=>(ha.2 s h).2,?_⟩<;>rw[hb]
 ·exact .leaf (by decide) (by decide)
 ·have:=gN 5 0 ⟨#[]⟩;show cZ (.mk 5 0 ⟨#[]⟩ [] [])<=31;omega
 ·exact kK _ _ _
 ·exact O.empty
 ·decide
 ·rfl
def SB:EV:=⟨⟨#[]⟩,Ag,⟨#[]⟩,false,⟨#[64,97,58,98]⟩,⟨#[33,114,58,98]⟩,[],[],0,0,lN⟩
theorem Ms:D9 SB:=WZ U ⟨by decide,λs h=>by cases h⟩ ⟨by decide,λs h=>by cases h⟩ ⟨by decide,by decide⟩ ⟨by decide,by decide⟩ (by kernel_rfl) (by kernel_rfl)
theorem W9:ma SB=true:=by kernel_rfl
theorem OT(e:EV)(i:ByteArray):aL {e with id:=i}=aL e:=rfl
theorem UB:ic zeroV=(zeroE,15):=C9 (key:=dN) (k:=3) (by unfold oG;exact List.mem_cons_self ..) (by kernel_rfl)
theorem Rn{e:EV}(hs:D9 e)(hf:ma e=true)(hc:e.is=false->e.key=⟨#[]⟩):ic (aL {e with id:=oI (aL e)})=({e with id:=oI (aL e)},0):=by
 have:=Da hs hf
 rw[OT,this]
 obtain⟨i,t,k,is,s,r,p,a,d,m,b⟩:=e
 simp only at hc
 cases is with
 |true=>rfl
 |false=>rw[hc U];rfl
theorem DT{e:EV}(hs:Sm e)(i:ByteArray)(H:Hp):au Tryz.prog 21 [.agg (gZ {e with id:=i}),.agg (gZ {e with id:=i})] H (bB H (.v (.bool true))):=by
 have hx:=WX hs i
 have:=xI {e with id:=i} {e with id:=i} (by have:=hx.prev.1;omega) (by have:=hx.bL.1;omega) hx.fits H
 rwa [Aa _ hx.fits] at this
theorem Ro{e:EV}(hs:Sm e)(H:Hp):au Tryz.prog 32 [.agg (gZ e),.agg (gZ e)] H (bB H (.v (.bool true))):=by
 have:=Ab e e (by have:=hs.prev.1;omega) (by have:=hs.bL.1;omega) hs.fits H
 rwa [Aa _ hs.fits] at this
theorem ig(H:Hp)(hG:fA H):au Tryz.prog 20 [] H (bB H (.v (.bool true))):=by
 have n1:=λH=>BI SB Ms.toSm H
 have hrd:=Rn Ms W9 (λ_=>rfl)
 have hs1:D9 {SB with id:=oI (aL SB)}:=WY Ms _
 have he:{{SB with id:=oI (aL SB)} with id:=oI (aL {SB with id:=oI (aL SB)})}={SB with id:=oI (aL SB)}:=by rw[OT];rfl
 have n2:=λH h=>xJ _ hs1.toSm H h
 rw[he] at n2
 generalize {SB with id:=oI (aL SB)}=x at*
 have mk:=λH h=>mg x hs1.toSm H h
 have rd:=λH h=>iO (aL x) (pG hs1.make (fD x) hs1).rw H h
 have rz:=λH h=>iO zeroV aaE H h
 have s1:=λH=>xI x x (by have:=hs1.prev.1;omega) (by have:=hs1.bL.1;omega) hs1.fits H
 have s2:=λH=>Ab x x (by have:=hs1.prev.1;omega) (by have:=hs1.bL.1;omega) hs1.fits H
 rw[Aa x hs1.fits] at s1 s2
 rw[hrd] at rd
 rw[UB] at rz
 simp only at rd rz
 clear hrd he hs1
 generalize aL x=m at*
 generalize zeroE=z at*
 obtain⟨xi,xt,xk,xs,xu,xr,xp,xa,xd,xm,xb⟩:=x
 obtain⟨zi,zt,zk,zs,zu,zr,zp,za,zd,zm,zb⟩:=z
 obtain⟨m0,m1,m2,m3,m4⟩:=m
 obtain⟨b0,b1,b2,b3,b4⟩:=xb
 obtain⟨c0,c1,c2,c3,c4⟩:=zb
 refine aF (n:=44) (H0:=H) (I:=[]) Tryz.func20 (by kernel_rfl) U (by rw[Tryz.ntmps20];rfl) .nil<|?_
 refine Q.rg<|Q.as U<|Q.nt<|Q.rg<|S.qu (Z.eq (u':=.agg (aC lN)) (Z.bd [0] gU U U U U U U) U)<|S.qu (Z.eq (u':=.agg (gZ SB)) (Z.bd [1,4,5,10] wh U U U U U U) U)<|S.qu (Z.call U U (λH=>n1 H))<|S.dd<|D.al z28 U U U λp1=>S.s<|D.st 0 di U U U U U U U U λ_=>Q.nt<|Q.rg<|S.qu (Z.bW 0 di U U U)<|S.qu (Z.bK U U (λ_ hS=>mk _ (hG.mono hS)))<|S.qu (Z.bK U U (λ_ hS=>rd _ (hG.mono hS)))<|Q.mv U<|S.qu (Z.ex U U)<|S.qu (Z.ex U U)<|S.dd<|D.al z28 U U U λp2=>S.s<|D.st 0 di U U U U U U U U λ_=>Q.as U<|Q.nt<|Q.rg<|S.qu (Z.eq (u':=.agg (aC zeroV)) (Z.bd [] gU U U U U U U) U)<|S.qu (Z.bK U U (λ_ hS=>rz _ (hG.mono hS)))<|Q.mv U<|S.qu (Z.ex U U)<|S.qu (Z.ex U U)<|S.dd<|D.al z28 U U U λp4=>S.s<|D.st 0 di U U U U U U U U λ_=>Q.as U<|Q.nt<|S.sq<|?_
 refine' UW.bG (by kernel_rfl) [0,1,3,7,7,31,63,127,255,511,1023,2047,4095,4095,16383,32767,65535,131071,262143,524287,131071,1179647,4194303,8388607,16777215] [some 20,some 21,some 22,some 23,some 24,some 25,some 26,some 27,some 28,some 29,some 30,some 31,some 32,some 33,some 34,some 35,some 36,some 37,some 38,some 39,some 40,some 41,some 42,some 43,some 0] [some (20,_),some (21,_),some (22,_),some (23,_),some (24,_),some (25,_),some (26,_),some (27,_),some (28,_),some (29,_),some (30,_),some (31,_),some (32,_),some (33,_),some (34,_),some (35,_),some (36,_),some (37,_),some (38,_),some (39,_),some (40,_),some (41,_),some (42,_),some (43,_),some (0,_)] [] [3,4,12,13,17,21] U (by decide) (by decide) (M.free (by decide) U U ?uV (M.free (by decide) U U ?qF (M.free (by decide) U U ?qG (M.held (by decide) U U ?vJ (M.held (by decide) U U ?Ac (M.free (by decide) U U ?vK (M.free (by decide) U U ?vL (M.free (by decide) U U ?Ad (M.free (by decide) U U ?vM (M.free (by decide) U U ?vN (M.free (by decide) U U ?vO (M.free (by decide) U U ?Mt (M.held (by decide) U U ?BJ (M.held (by decide) U U ?BK (M.free (by decide) U U ?Mi (M.free (by decide) U U ?aaM (M.free (by decide) U U ?Mj (M.held (by decide) U U ?Mk (M.free (by decide) U U ?Ml (M.free (by decide) U U ?aaN (M.free (by decide) U U ?Mm (M.held (by decide) U U ?Mo (M.free (by decide) U U ?Mq (M.free (by decide) U U ?aaO (M.free (by decide) U U ?Mr M.nil))))))))))))))))))))))))) ?Gi
 case uV=>(intro _;exact Z.mv rfl)
 case qF=>(intro _;exact Z.tT (Z.bi rfl rfl rfl) (decide_eq_true (by omega)))
 case qG=>(intro _;exact Z.mv rfl)
 case vJ=>exact Z.on (Z.bW 2 di rfl rfl rfl)
 case Ac=>exact Z.on (Z.bW 1 di rfl rfl rfl)
 case vK=>(intro _;exact Z.on (Z.call rfl rfl (λH=>s1 H)))
 case vL=>(intro _;exact Z.pick rfl rfl)
 case Ad=>(intro _;exact Z.mv rfl)
 case vM=>(intro _;exact Z.on (Z.mv rfl))
 case vN=>(intro _;exact Z.on (Z.tT (Z.bi rfl rfl rfl) (decide_eq_true (by omega))))
 case vO=>(intro _;exact Z.pick rfl rfl)
 case Mt=>(intro _;exact Z.mv rfl)
 case BJ=>exact Z.on (Z.bW 2 di rfl rfl rfl)
 case BK=>exact Z.on (Z.bW 1 di rfl rfl rfl)
 case Mi=>(intro _;exact Z.on (Z.call rfl rfl (λH=>s2 H)))
 case aaM=>(intro _;exact Z.pick rfl rfl)
 case Mj=>(intro _;exact Z.mv rfl)
 case Mk=>exact Z.on (Z.bW 2 di rfl rfl rfl)
 case Ml=>(intro _;exact Z.on (Z.bK rfl rfl (λ_ hS=>n2 _ (hG.mono hS))))
 case aaN=>(intro _;exact Z.on (Z.fc ft28_0 rfl rfl))
 case Mm=>(intro _;exact Z.on (Z.fa su rfl))
 case Mo=>exact Z.on (Z.dM 2 dW rfl rfl rfl)
 case Mq=>(intro _;exact Z.on (Z.bs rfl rfl rfl))
 case aaO=>(intro _;exact Z.pick rfl rfl)
 case Mr=>(intro _;exact Z.as rfl)
 refine CH.nil<|?_
 simp only[app,bS]
 refine UQ.then<|UW.ret<|S.bH (λ_=>ak U U)<|?_
 focus (rw[beq_self_eq_true];done)
def Rp:ByteArray:=⟨#[97,110,121]⟩
theorem Rq(c d:List Int)(k j:Int)(hc:wy c)(hd:wy d)(hk0:0<=k)(hk1:k<=255)(hj0:0<=j)(hj1:j<=255)(H:Hp)(hG:fA H):au Tryz.prog 8 [yM c,yM d,.v (.int .u8 k),.v (.int .u8 j)] H (bB H (.v (.bool true))):=by
 have e1:=λH=>vP c hc k hk0 (by omega) H
 have e2:=λH=>vP d hd j hj0 (by omega) H
 have hx:Sm {dx c k with id:=Rp}:=WX (vF hc k hk0 (by omega)).1.toSm _
 have hy:=(vF hd j hj0 (by omega)).1.toSm
 have m1:=λH h=>mg _ hx H h
 have m2:=λH=>qX _ hx H
 have p1:=λH h=>OQ _ hx H h
 have p2:=λH=>Mh _ hx H
 have n1:=λH h=>xJ _ hx H h
 have n2:=λH=>BI _ hx H
 have s0:=λH=>Fz (aL {dx c k with id:=Rp}) hx.make.fits (aL {dx c k with id:=Rp}) H
 rw[CV _ hx.make.fits] at s0
 have s1:=λH=>DT hx (oI (aL {dx c k with id:=Rp})) H
 have s2:=λH=>Ab {dx c k with id:=Rp} (dx d j) (by have:(dx c k).prev.length<=24:=hx.prev.1;show(dx c k).prev.length<=1000;omega) (by have:(dx c k).bL.length<=24:=hx.bL.1;show(dx c k).bL.length<=1000;omega) hx.fits H
 have s3:=λH=>xI {dx c k with id:=Rp} (dx d j) (by have:(dx c k).prev.length<=24:=hx.prev.1;show(dx c k).prev.length<=1000;omega) (by have:(dx c k).bL.length<=24:=hx.bL.1;show(dx c k).bL.length<=1000;omega) hx.fits H
 have s4:=λH=>Ro hx H
 generalize Hy _ _=sm at*
 clear hx hy
 generalize dx c k=x at*
 generalize dx d j=y at*
 generalize aL {x with id:=Rp}=m at*
 generalize oI m=mi at*
 obtain⟨xi,xt,xk,xs,xu,xr,xp,xa,xd,xm,xb⟩:=x
 obtain⟨zi,zt,zk,zs,zu,zr,zp,za,zd,zm,zb⟩:=y
 obtain⟨m0,m1',m2',m3,m4⟩:=m
 obtain⟨b0,b1,b2,b3,b4⟩:=xb
 obtain⟨c0,c1,c2,c3,c4⟩:=zb
 simp only at*
 refine aF (n:=54) (H0:=H) (I:=[]) Tryz.func8 (by kernel_rfl) U (by rw[Tryz.ntmps8];rfl) .nil<|?_
 refine Q.rg<|Q.as U<|Q.nt<|Q.rg<|Q.mv U<|Q.mv U<|S.qu (Z.call U U (λH=>e1 H))<|S.dd<|D.al z28 U U U λp9=>S.s<|D.st 0 di U U U U U U U U λ_=>Q.nt<|Q.rg<|Q.mv U<|Q.mv U<|S.qu (Z.call U U (λH=>e2 H))<|S.dd<|D.al z28 U U U λTt=>S.s<|D.st 0 di U U U U U U U U λ_=>Q.nt<|Q.rg<|Q.fa su U<|S.s<|D.st 1 dW U U U U U U U U λ_=>Q.nt<|S.sq<|?_
 refine' UW.bG (by kernel_rfl) [0,1,3,7,3,31,63,127,255,511,1023,511,4095,8191,16383,32767,65535,131071,65535,524287,1048575,2097151,4194303,8388607,8388607,33554431,8388607,8388607,268435455,536870911,1073741823,2147483647,4294967295,4294967295,17179869183,34359738367,68719476735] [some 18,some 19,some 20,some 21,some 22,some 23,some 24,some 25,some 26,some 27,some 28,some 29,some 30,some 31,some 32,some 33,some 34,some 35,some 36,some 37,some 38,some 39,some 40,some 41,some 42,some 43,some 44,some 45,some 46,some 47,some 48,some 49,some 50,some 51,some 52,some 53,some 8] [some (18,_),some (19,_),some (20,_),some (21,_),some (22,_),some (23,_),some (24,_),some (25,_),some (26,_),some (27,_),some (28,_),some (29,_),some (30,_),some (31,_),some (32,_),some (33,_),some (34,_),some (35,_),some (36,_),some (37,_),some (38,_),some (39,_),some (40,_),some (41,_),some (42,_),some (43,_),some (44,_),some (45,_),some (46,_),some (47,_),some (48,_),some (49,_),some (50,_),some (51,_),some (52,_),some (53,_),some (8,_)] [] [2,4,9,11,16,18,23,24,26,27,32,33] U (by decide) (by decide) (M.free (by decide) U U ?iU (M.free (by decide) U U ?iV (M.held (by decide) U U ?iW (M.free (by decide) U U ?iX (M.held (by decide) U U ?iY (M.free (by decide) U U ?iZ (M.free (by decide) U U ?ja (M.free (by decide) U U ?kH (M.free (by decide) U U ?nL (M.held (by decide) U U ?qB (M.free (by decide) U U ?mK (M.held (by decide) U U ?pg (M.free (by decide) U U ?AR (M.free (by decide) U U ?AU (M.free (by decide) U U ?AX (M.free (by decide) U U ?Ke (M.held (by decide) U U ?Kg (M.free (by decide) U U ?Kh (M.held (by decide) U U ?Ki (M.free (by decide) U U ?Kj (M.free (by decide) U U ?Kk (M.free (by decide) U U ?Kl (M.free (by decide) U U ?Km (M.held (by decide) U U ?aaP (M.held (by decide) U U ?aaQ (M.free (by decide) U U ?aaR (M.held (by decide) U U ?aaS (M.held (by decide) U U ?aaT (M.free (by decide) U U ?aaU (M.free (by decide) U U ?aaV (M.free (by decide) U U ?aaW (M.free (by decide) U U ?aaX (M.held (by decide) U U ?aaY (M.held (by decide) U U ?aaZ (M.free (by decide) U U ?aa0 (M.free (by decide) U U ?aa1 (M.free (by decide) U U ?aa2 M.nil))))))))))))))))))))))))))))))))))))) ?sI
 case iU=>(intro _;exact Z.bK rfl rfl (λ_ hS=>ig _ (hG.mono hS)))
 case iV=>(intro _;exact Z.mv rfl)
 case iW=>exact Z.on (Z.bW 1 di rfl rfl rfl)
 case iX=>(intro _;exact Z.on (Z.bK rfl rfl (λ_ hS=>m1 _ (hG.mono hS))))
 case iY=>exact Z.on (Z.bW 1 di rfl rfl rfl)
 case iZ=>(intro _;exact Z.on (Z.call rfl rfl (λH=>m2 H)))
 case ja=>(intro _;exact Z.on (Z.call rfl rfl (λH=>s0 H)))
 case kH=>(intro _;exact Z.pick rfl rfl)
 case nL=>(intro _;exact Z.mv rfl)
 case qB=>exact Z.on (Z.bW 1 di rfl rfl rfl)
 case mK=>(intro _;exact Z.on (Z.bK rfl rfl (λ_ hS=>p1 _ (hG.mono hS))))
 case pg=>exact Z.on (Z.bW 1 di rfl rfl rfl)
 case AR=>(intro _;exact Z.on (Z.call rfl rfl (λH=>p2 H)))
 case AU=>(intro _;exact Z.on (Z.tT (Z.bs rfl rfl rfl) (by exact beq_self_eq_true _)))
 case AX=>(intro _;exact Z.pick rfl rfl)
 case Ke=>(intro _;exact Z.mv rfl)
 case Kg=>exact Z.on (Z.bW 1 di rfl rfl rfl)
 case Kh=>(intro _;exact Z.on (Z.bK rfl rfl (λ_ hS=>n1 _ (hG.mono hS))))
 case Ki=>exact Z.on (Z.bW 1 di rfl rfl rfl)
 case Kj=>(intro _;exact Z.on (Z.call rfl rfl (λH=>n2 H)))
 case Kk=>(intro _;exact Z.on (Z.call rfl rfl (λH=>s1 H)))
 case Kl=>(intro _;exact Z.pick rfl rfl)
 case Km=>(intro _;exact Z.mv rfl)
 case aaP=>exact Z.on (Z.bW 1 di rfl rfl rfl)
 case aaQ=>exact Z.on (Z.bW 0 di rfl rfl rfl)
 case aaR=>(intro _;exact Z.on (Z.call rfl rfl (λH=>s2 H)))
 case aaS=>exact Z.on (Z.bW 1 di rfl rfl rfl)
 case aaT=>exact Z.on (Z.bW 0 di rfl rfl rfl)
 case aaU=>(intro _;exact Z.on (Z.call rfl rfl (λH=>s3 H)))
 case aaV=>(intro _;exact Z.on (Z.tT (Z.beq Tryz.underlying4 rfl rfl) (by exact beq_self_eq_true _)))
 case aaW=>(intro _;exact Z.pick rfl rfl)
 case aaX=>(intro _;exact Z.mv rfl)
 case aaY=>exact Z.on (Z.bW 1 di rfl rfl rfl)
 case aaZ=>exact Z.on (Z.bW 1 di rfl rfl rfl)
 case aa0=>(intro _;exact Z.on (Z.call rfl rfl (λH=>s4 H)))
 case aa1=>(intro _;exact Z.pick rfl rfl)
 case aa2=>(intro _;exact Z.as rfl)
 refine CH.nil<|?_
 simp only[app,bS]
 refine UQ.then<|UW.ret<|S.bH (λ_=>ak U U)<|?_
 rfl
end Go.Proofs.YtonpfomjoiaacaaGreatDoor
end
