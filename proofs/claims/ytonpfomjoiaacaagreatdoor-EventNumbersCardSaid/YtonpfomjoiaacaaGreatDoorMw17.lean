/- A part of the proof. -/
import Derived.Test.YtonpfomjoiaacaaGreatDoorMw14
import Derived.Test.YtonpfomjoiaacaaGreatDoorMw15
import Derived.Test.YtonpfomjoiaacaaGreatDoorMw16
import Derived.Lib.ItoaLen
set_option maxRecDepth 100000
set_option maxHeartbeats 4000000
set_option linter.unusedSectionVars false
set_option linter.unusedVariables false
set_option linter.unusedSimpArgs false
section
namespace Go.Proofs.YtonpfomjoiaacaaGreatDoor
open Go Go.iG Go.RowKit
def TabAt(H:Hp)(i:Nat)(name:String)(k:IntKind)(zs:List Int):Prop:=∃g t p,Tryz.prog.globalNamed name=some g/\H i=some (.raw g (.cells (zs.map λz=>Value.int k z).toArray t p))
def fA(H:Hp):Prop:=TabAt H 0 "internal/strconv.uint64pow10" .u64 Lib.pow10Tab/\TabAt H 1 "strings.asciiSpace" .u8 Lib.asciiSpaceTab
theorem TabAt.tab{H:Hp}{i:Nat}{name:String}{k:IntKind}{zs:List Int}(h:TabAt H i name k zs){ρ:ik}{w:World}(hh:eu ρ H w):Lib.TabIs Tryz.prog w name k zs:=by
 obtain⟨g,t,p,h1,h2⟩:=h
 unfold Lib.TabIs World.var?
 rw[h1]
 simp only[Option.bind_some,hh.raw h2]
theorem TabAt.mono{H H':Hp}{i:Nat}{name:String}{k:IntKind}{zs:List Int}(h:TabAt H i name k zs)(hs:Sub H H'):TabAt H' i name k zs:=by
 obtain⟨g,t,p,h1,h2⟩:=h
 exact⟨g,t,p,h1,hs _ _ h2⟩
theorem fA.mono{H H':Hp}(h:fA H)(hs:Sub H H'):fA H':=⟨h.1.mono hs,h.2.mono hs⟩
theorem fA.low{H:Hp}(h:fA H):fA (low H):=by
 obtain⟨⟨g,t,p,h1,h2⟩,g',t',p',h3,h4⟩:=h
 exact⟨⟨g,t,p,h1,h2⟩,g',t',p',h3,h4⟩
theorem fA.raw{H:Hp}(h:fA H):RawH (Go.iG.low H):=by
 obtain⟨⟨g,t,p,h1,h2⟩,g',t',p',h3,h4⟩:=h
 intro i ob hi
 unfold Go.iG.low at hi
 split at hi
 ·rename_i hlt
  have:i=0\/i=1:=by omega
  rcases this with rfl|rfl
  ·rw[h2] at hi;cases hi;exact⟨_,_,rfl⟩
  ·rw[h4] at hi;cases hi;exact⟨_,_,rfl⟩
 ·cases hi
theorem fA.ext{H:Hp}(h:fA H){news:List (Nat×Ob)}(hd:aP H news):fA (aD H news):=h.mono (o9 hd)
def uL(n:Int):ByteArray:=⟨(Lib.itoa n).toArray⟩
theorem IW(n:Int)(h0: -9223372036854775808<=n)(h1:n<=9223372036854775807):(uL n).size<=21:=Lib.itoa_length_le n h0 h1
theorem DW(n:Int)(h0: -9223372036854775808<=n)(h1:n<=9223372036854775807)(H:Hp)(hG:fA H):au Tryz.prog 146 [.v (.int .i64 n),.v (.int .i64 10)] H (bB H (.v (.string (uL n)))):=
 au.wM ⟨_,Tryz.func146,by kernel_rfl,by kernel_rfl⟩ λρ w vals hh hr=>by
  obtain⟨hl,hr⟩:=hr
  match vals,hl,hr with
  |[a,b],hl,hr=>
   have e1:=aV (hr 0 _ _ U U)
   have e2:=aV (hr 1 _ _ U U)
   subst e1 e2
   refine(Tryz.internal_strconv_FormatInt_10 n h0 h1 w (hG.1.tab hh)).mono<|?_
   rintro e w' ⟨he,k,os,rfl⟩
   exact⟨he,rfl,rfl,rfl,by show w.heap.size<=(w.heap++os).size;simp,λk hk=>by show(w.heap++os)[k]? =_;rw[Array.getElem?_append_left hk]⟩
theorem Fx(n:Int)(h0: -9223372036854775808<=n)(h1:n<=9223372036854775807)(H:Hp)(hG:fA H):au Tryz.prog 103 [.v (.int .i64 n),.v (.int .i64 10)] H (bB H (.v (.string (uL n)))):=by
 refine aF (n:=8) (H0:=H) (I:=[]) Tryz.func103 (by kernel_rfl) U (by rw[Tryz.ntmps103];rfl) .nil<|?_
 refine Q.rg<|Q.as U<|Q.nt<|Q.rg<|Q.mv U<|Q.mv U<|S.qu (Z.bK U U (λ_ hS=>DW n h0 h1 _ (hG.mono hS)))<|Q.as U<|Q.nt<|UW.ret<|S.bH (λ_=>ak U U)<|?_
 rfl
def Fy(b:Bool):ByteArray:=⟨(Lib.formatBool b).toArray⟩
theorem DX(b:Bool)(H:Hp):au Tryz.prog 102 [.v (.bool b)] H (bB H (.v (.string (Fy b)))):=
 au.wM ⟨_,Tryz.func102,by kernel_rfl,by kernel_rfl⟩ λρ w vals hh hr=>by
  obtain⟨hl,hr⟩:=hr
  match vals,hl,hr with
  |[a],hl,hr=>
   have e1:=aV (hr 0 _ _ U U)
   subst e1
   refine(Tryz.strconv_FormatBool b w).mono<|?_
   rintro e w' ⟨he,rfl⟩
   exact⟨he,Below.refl _ _⟩
def gX(l:List ByteArray)(sep:ByteArray):ByteArray:=⟨(Lib.join (l.map (·.data.toList)) sep.data.toList).toArray⟩
theorem IX:∀l:List ByteArray,(l.map encS).flatten=l.map λs=> .v (.string s)
 |[]=>rfl
 |a::r=>by rw[List.map_cons,List.flatten_cons,IX r];rfl
theorem Kc(l:List ByteArray)(sep:ByteArray)(hl:l.length<=140737488355328)(hb:(gX l sep).size<=140737488355328)(i len:Nat)(hle:len=l.length)(H:Hp)(hi:H i=some (.row 9 1 (l.map encS))):au Tryz.prog 147 [.own i 0 len 1,.v (.string sep)] H (bB H (.v (.string (gX l sep)))):=
 au.wM ⟨_,Tryz.func147,by kernel_rfl,by kernel_rfl⟩ λρ w vals hh hr=>by
  subst hle
  obtain⟨hl0,hr⟩:=hr
  match vals,hl0,hr with
  |[a,b],hl0,hr=>
   have e1:=hr 0 _ _ U U
   have e2:=aV (hr 1 _ _ U U)
   subst e2
   obtain⟨v,hv,hz,inner,how,hrl,hc⟩:=hh.ob _ _ hi
   have hnone:∀a c,l.length=0->Calls Tryz.prog 147 #[.slice a 0 c,.string sep] w λe w'=>e=.returned (.string (gX l sep))/\Below w.heap.size w w':=λa c h0=>by
    have:l=[]:=List.eq_nil_of_length_eq_zero h0
    subst this
    exact(Tryz.strings_Join_none a c sep w).mono λe w' ⟨he,hw⟩=>⟨he,hw▸Below.refl _ _⟩
   generalize hll:l.length=ll at e1⊢
   cases e1 with
   |nu _ _ h=>exact hnone none 0 (by assumption)
   |o7 _ _ _ g n cap off' cap' h h0 hm=>exact hnone _ _ (by omega)
   |own _ _ _ _ g n cap h hcap hmax=>
    rw[hv] at h;cases h
    rcases how.2 with ⟨h7,h8⟩|⟨g',cap',cur,h7,_,hg',h8,h9,h10,h11⟩
    ·cases h7
    cases h7
    subst hll
    rw[List.length_map] at h11
    rw[List.length_map] at h8
    rw[show([Value.slice (some ⟨g,0*1,none⟩) l.length (cap-0),Value.string sep]:List Value).toArray= #[.slice (some ⟨g,0,none⟩) l.length (cap-0),.string sep] from rfl]
    refine Tryz.strings_Join g 0 (cap-0) l sep w (λj x hj=>?_) (Array.getElem?_eq_some_iff.1 hg').1 hl (by omega) hb
    have hjl:=(List.getElem?_eq_some_iff.1 hj).1
    have hfl:=IX l
    have h12:=hc.1
    rw[hfl,List.length_map] at h12
    have h13:=(hc.2 j (.v (.string x)) (inner[j]'(by omega)) (by rw[hfl,List.getElem?_map,hj];rfl) (List.getElem?_eq_getElem (by omega))).1
    have h14:cur.toList[j]? =some (.string x):=by
     have:(cur.toList.take (l.length*1))[j]? =some (.string x):=by rw[h11,List.getElem?_eq_getElem (by omega),aV h13]
     rw[List.getElem?_take,if_pos (by omega)] at this
     exact this
    simp only[World.cell?,hg',Nat.zero_add]
    simpa using h14
theorem Fz(x:V)(hx:Fits x):∀(y:V) (H:Hp),au Tryz.prog 28 [.agg (aC x),.agg (aC y)] H (bB H (.v (.bool (gV x y)))):=by
 induction hx with
 |mk k n t ks vs h1 h2 h ih=>
 rintro⟨k',n',t',ks',vs'⟩ H
 have hvl:=aS vs
 have hvl':=aS vs'
 refine aF (n:=61) (H0:=H) (I:=[]) Tryz.func28 (by kernel_rfl) U (by rw[Tryz.ntmps28];rfl) .nil<|?_
 refine Q.rg<|S.dd<|D.box U U U λp2=>S.dd<|D.box U U U λp3=>Q.as U<|Q.nt<|S.sq<|Q.rg<|Q.fa bT U<|Q.lc 1 fB U U U<|Q.fa bT U<|Q.lc 0 fB U U U<|Q.bi U U U<|Q.mv U<|?_
 refine S.tO 11 (λvY=>?_) (λvY=>?_)
 refine Q.of<|Q.of<|Q.of<|Q.of<|Q.of<|Q.pk U U<|Q.mv U<|Q.of<|Q.of<|Q.of<|Q.of<|Q.of<|Q.pk U U<|Q.mv U<|Q.of<|Q.of<|Q.of<|Q.of<|Q.of<|Q.of<|Q.pk U U<|Q.mv U<|Q.of<|Q.of<|Q.of<|Q.of<|Q.of<|Q.of<|Q.of<|Q.pk U U<|Q.nt<|S.cT U U<|Q.rg<|Q.as U<|Q.nt<|UW.ret<|UQ.ax<|S.bH (λ_=>ak U U)<|?_
 focus (rw[gV];simp_all[uF];done)
 refine Q.on (Z.fa jf U)<|Q.on (Z.dM 1 lg U U U)<|Q.on (Z.fa jf U)<|Q.on (Z.dM 0 lg U U U)<|Q.on (Z.bi U U U)<|Q.pk U U<|Q.mv U<|?_
 refine S.tO 18 (λhc18=>?_) (λhc18=>?_)
 refine Q.of<|Q.of<|Q.of<|Q.of<|Q.of<|Q.pk U U<|Q.mv U<|Q.of<|Q.of<|Q.of<|Q.of<|Q.of<|Q.of<|Q.pk U U<|Q.mv U<|Q.of<|Q.of<|Q.of<|Q.of<|Q.of<|Q.of<|Q.of<|Q.pk U U<|Q.nt<|S.cT U U<|Q.rg<|Q.as U<|Q.nt<|UW.ret<|UQ.ax<|S.bH (λ_=>ak U U)<|?_
 focus (rw[gV];simp_all[uF];done)
 refine Q.on (Z.fa kY U)<|Q.on (Z.dM 1 dW U U U)<|Q.on (Z.fa kY U)<|Q.on (Z.dM 0 dW U U U)<|Q.on (Z.bs U U U)<|Q.pk U U<|Q.mv U<|?_
 refine S.tO 25 (λhc25=>?_) (λhc25=>?_)
 refine Q.of<|Q.of<|Q.of<|Q.of<|Q.of<|Q.of<|Q.pk U U<|Q.mv U<|Q.of<|Q.of<|Q.of<|Q.of<|Q.of<|Q.of<|Q.of<|Q.pk U U<|Q.nt<|S.cT U U<|Q.rg<|Q.as U<|Q.nt<|UW.ret<|UQ.ax<|S.bH (λ_=>ak U U)<|?_
 focus (rw[gV];simp_all[uF];done)
 refine Q.on (Z.fa dJ U)<|Q.on (Z.dM 1 dB U U U)<|Q.on (Z.fa dJ U)<|Q.on (Z.dM 0 dB U U U)<|Q.on (Z.call U U (λ_=>sJ _ _ h1 _))<|Q.on (Z.not U)<|Q.pk U U<|Q.mv U<|?_
 refine S.tB 33 (λTm=>?_) (λTm=>?_)
 refine Q.of<|Q.of<|Q.of<|Q.of<|Q.of<|Q.of<|Q.of<|Q.pk U U<|Q.nt<|S.cT U U<|Q.rg<|Q.as U<|Q.nt<|UW.ret<|UQ.ax<|S.bH (λ_=>ak U U)<|?_
 focus (rw[gV];simp_all[uF];done)
 refine Q.on (Z.fa bU U)<|Q.on (Z.dM 1 dR U U U)<|Q.on (Z.fM bP U)<|Q.on (Z.fa bU U)<|Q.on (Z.dM 0 dR U U U)<|Q.on (Z.fM bP U)<|Q.on (Z.bi U U U)<|Q.pk U U<|Q.nt<|?_
 refine S.cO U (λhc41=>?_) (λhc41=>?_)
 refine Q.rg<|Q.as U<|Q.nt<|UW.ret<|UQ.ax<|S.bH (λ_=>ak U U)<|?_
 focus (rw[gV,pR,wT (f:=gV) (l:=vs) (r:=vs') (by omega)];simp;done)
 refine UW.skip<|UQ.then<|S.sq<|Q.rg<|Q.as U<|Q.nt<|UW.block<|?_
 have hlen:vs.length=vs'.length:=by omega
 refine S.loop (λj:Nat=>[(5,.v (.int .i64 (j:Int))),(2,.ptr p2 0),(3,.ptr p3 0)]) (λ_=>[(p3,.box 26 (aC (.mk k' n' t' ks' vs'))),(p2,.box 26 (aC (.mk k n t ks vs)))]) (λj=>j<=vs.length/\∀(i:Nat) (h:i<vs.length) (h':i<vs'.length),i<j->gV vs[i] vs'[i]=true) (λj=>vs.length-j) 0 ⟨Nat.zero_le _,λi _ _ h=>absurd h (by omega)⟩ ⟨rfl,rfl,rfl,trivial⟩ (.refl _)<|?_
 rintro j ⟨hj,hjj⟩
 by_cases hlt:j<vs.length
 ·have hgl:=gH vs j hlt
  have hgr:=gH vs' j (by omega)
  have hrec:=λH=>ih _ (List.getElem_mem hlt) (vs'[j]'(by omega)) H
  focus
   refine S.sq<|Q.rg<|Q.mv U<|Q.fa bU U<|Q.lc 1 dR U U U<|S.qu (Z.fM bP U)<|Q.bi U U U<|Q.nt<|S.cT U (decide_eq_true (by omega))<|UW.skip<|UQ.then<|S.sq<|UW.block<|S.sq<|?_
   refine' UW.bG (by kernel_rfl) [0,1,0,7,15,0,32,0,224,480,1023,2047] [some 49,some 50,some 51,some 52,some 53,some 54,some 55,some 56,some 57,some 58,some 59,some 60] [some (49,_),some (50,_),some (51,_),some (52,_),some (53,_),some (54,_),some (55,_),some (56,_),some (57,_),some (58,_),some (59,_),some (60,_)] [] [1,4,6,9] U (by decide) (by decide) (M.free (by decide) U U ?iU (M.held (by decide) U U ?iV (M.free (by decide) U U ?iW (M.free (by decide) U U ?iX (M.held (by decide) U U ?iY (M.free (by decide) U U ?iZ (M.held (by decide) U U ?ja (M.free (by decide) U U ?kH (M.free (by decide) U U ?nL (M.held (by decide) U U ?qB (M.free (by decide) U U ?mK (M.free (by decide) U U ?pg M.nil)))))))))))) ?sI
   case iU=>(intro _;exact Z.fa bU rfl)
   case iV=>exact Z.dM 1 dR rfl rfl rfl
   case iW=>(intro _;exact Z.mv rfl)
   case iX=>(intro _;exact Z.ia bP rfl rfl (by omega) (by assumption) (by exact Y _))
   case iY=>exact Z.IG av rfl (Y _)
   case iZ=>(intro _;exact Z.fa bU rfl)
   case ja=>exact Z.dM 0 dR rfl rfl rfl
   case kH=>(intro _;exact Z.mv rfl)
   case nL=>(intro _;exact Z.ia bP rfl rfl (by omega) (by assumption) (by exact Y _))
   case qB=>exact Z.IG av rfl (Y _)
   case mK=>(intro _;exact Z.call rfl rfl hrec)
   case pg=>(intro _;exact Z.not rfl)
   refine CH.nil<|?_
   simp only[app,bS]
   refine UQ.then<|?_
   refine S.cB U (λVt=>?_) (λVt=>?_)
   refine Q.rg<|Q.as U<|Q.nt<|UW.ret<|UQ.aI<|UQ.ax<|UQ.ax<|UQ.aI<|UQ.ax<|S.bH (λ_=>ak U U)<|?_
   rotate_left
   refine UW.skip<|UQ.aB<|UQ.then<|S.rg<|Q.mv U<|S.qu (Z.add (r:=((j+1:Nat):Int)) U U (IntWalk.i64_in _ (by omega)))<|Q.as U<|US.nil<|?_
   refine S.back _ ⟨rfl,rfl,rfl,trivial⟩ (.refl _) ?_ (by omega)
   rotate_left
  ·rw[gV,pR,AQ j hlt (by omega) (by simpa using Vt)];simp
  ·refine⟨by omega,λi h3 h4 h5=>?_⟩
   by_cases hij:i=j
   ·subst hij;simpa using Vt
   ·exact hjj i h3 h4 (by omega)
 ·refine S.sq<|Q.rg<|Q.mv U<|Q.fa bU U<|Q.lc 1 dR U U U<|S.qu (Z.fM bP U)<|Q.bi U U U<|Q.nt<|S.cF U (decide_eq_false (by omega))<|UW.exit<|UQ.pass<|UQ.pass<|UQ.here<|UQ.then<|Q.rg<|Q.as U<|Q.nt<|UW.ret<|S.bH (λ_=>ak U U)<|?_
  have e1:uF t t'=true:=by unfold uF;simpa using hc25
  rw[gV,pR,nI hlen (λi h1 h2=>hjj i h1 h2 (by omega)),vY,hc18,e1,show mh uF ks ks'=true from by simpa using Tm];simp
theorem Tn(l:List Int)(h:∀c∈l,0<=c):J5 (l++[0])=l.foldl (λm c=>if c>m then c else m) 0:=by
 have e1:0<=l.foldl (λm c=>if c>m then c else m) 0:=qz.1
 have e2:l.foldl (λm c=>if c>m then c else m) 0<=J5 (l++[0]):=uC (Ef (by simp)) (λc hc=>Ef (by simp[hc]))
 have e3:J5 (l++[0])<=l.foldl (λm c=>if c>m then c else m) 0:=by
  cases l with
  |nil=>simp[J5]
  |cons a r=>
   have h1:=qz (r:=a::r) (b:=0)
   exact uC (h1.2 a (by simp)) (λc hc=>by
    rcases List.mem_append.1 hc with h2|h2
    ·exact h1.2 c (by simp[h2])
    ·simp at h2;subst h2;exact e1)
 omega
theorem jL(s:ByteArray)(hs:s.size<=4000000)(H:Hp):au Tryz.prog 158 [.v (.string s)] H (bB H (.v (.int .i64 (RN s)))):=by rw[chk_eq];exact Nf s hs H
def oM(ks:List ByteArray):Bool:=(List.range ks.length).all (rT ks)
theorem PR(ks:List ByteArray)(hl:ks.length<=1000000)(hks:∀s∈ks,s.size<=4000000)(H:Hp):au Tryz.prog 159 [strs ks] H (bB H (.v (.bool (oM ks)))):=by
 have yE:(ks.map encS).length=ks.length:=List.length_map ..
 refine aF (n:=33) (H0:=H) (I:=[]) Tryz.func159 (by kernel_rfl) U (by rw[Tryz.ntmps159];rfl) .nil<|?_
 refine Q.rg<|Q.as U<|Q.nt<|S.sq<|Q.rg<|Q.as U<|Q.nt<|UW.block<|S.loop (λj:Nat=>[(3,.v (.int .i64 (j:Int))),(0,strs ks)]) (λ_=>[]) (λj=>j<=ks.length/\∀i,i<j->rT ks i=true) (λj=>ks.length-j) 0 ⟨Nat.zero_le _,λi h=>absurd h (by omega)⟩ ⟨rfl,rfl,trivial⟩ (.refl _)<|?_
 rintro j ⟨hj,hjj⟩
 by_cases hlt:j<ks.length
 ·have hgl:=eY ks j hlt
  have hge:ks.getD j ⟨#[]⟩=ks[j]:=getD_at hlt
  have bad:rT ks j=false->oM ks=false:=λhb=>by
   unfold oM
   rw[List.all_eq_false]
   exact⟨j,List.mem_range.2 hlt,by simp[hb]⟩
  have good:rT ks j=true->∀i,i<j+1->rT ks i=true:=λhb i hi=>by
   by_cases hij:i=j
   ·subst hij;exact hb
   ·exact hjj i (by omega)
  by_cases hC:0<=RN ks[j]
  ·have hb:=bad (by unfold rT;rw[hge,decide_eq_false (by omega)];rfl)
   refine S.sq<|Q.rg<|Q.mv U<|Q.mv U<|S.qu (Z.fM aZ U)<|Q.bi U U U<|Q.nt<|S.cT U (decide_eq_true (by omega))<|UW.skip<|UQ.then<|S.sq<|UW.block<|S.sq<|?_
   refine' UW.bG (by kernel_rfl) [0,0,3,7,15,31,63,127,255,511,1023,1023,3071,8191,16383,1023,1023,99327,230399,524287,1048575,2097151,4194303] [some 10,some 11,some 12,some 13,some 14,some 15,some 16,some 17,some 18,some 19,some 20,some 21,some 22,some 23,some 24,some 25,some 26,some 27,some 28,some 29,some 30,some 31,some 32] [some (10,_),some (11,_),some (12,_),some (13,_),some (14,_),some (15,_),some (16,_),some (17,_),some (18,_),some (19,_),some (20,_),some (21,_),some (22,_),some (23,_),some (24,_),some (25,_),some (26,_),some (27,_),some (28,_),some (29,_),some (30,_),some (31,_),some (32,_)] [] [3,14,18] U (by decide) (by decide) (M.free (by decide) U U ?iU (M.free (by decide) U U ?iV (M.free (by decide) U U ?iW (M.held (by decide) U U ?iX (M.free (by decide) U U ?iY (M.free (by decide) U U ?iZ (M.free (by decide) U U ?ja (M.free (by decide) U U ?kH (M.free (by decide) U U ?nL (M.free (by decide) U U ?qB (M.free (by decide) U U ?mK (M.free (by decide) U U ?pg (M.free (by decide) U U ?AR (M.free (by decide) U U ?AU (M.held (by decide) U U ?AX (M.free (by decide) U U ?Ke (M.free (by decide) U U ?Kg (M.free (by decide) U U ?Kh (M.held (by decide) U U ?Ki (M.free (by decide) U U ?Kj (M.free (by decide) U U ?Kk (M.free (by decide) U U ?Kl (M.free (by decide) U U ?Km M.nil))))))))))))))))))))))) ?sI
   case iU=>(intro _;exact Z.mv rfl)
   case iV=>(intro _;exact Z.mv rfl)
   case iW=>(intro _;exact Z.ia aZ rfl rfl (by omega) (by assumption) (by rfl))
   case iX=>exact Z.fO dW rfl
   case iY=>(intro _;exact Z.call rfl rfl (λ_=>jL _ (hks _ (List.getElem_mem hlt)) _))
   case iZ=>(intro _;exact Z.tT (Z.bi rfl rfl rfl) (decide_eq_true (by omega)))
   case ja=>(intro _;exact Z.mv rfl)
   case kH=>(intro _;exact Z.of)
   case nL=>(intro _;exact Z.of)
   case qB=>(intro _;exact Z.of)
   case mK=>(intro _;exact Z.UF)
   case pg=>(intro _;exact Z.UF)
   case AR=>(intro _;exact Z.UF)
   case AU=>(intro _;exact Z.UF)
   case AX=>exact Z.UF
   case Ke=>(intro _;exact Z.UF)
   case Kg=>(intro _;exact Z.UF)
   case Kh=>(intro _;exact Z.UF)
   case Ki=>exact Z.UF
   case Kj=>(intro _;exact Z.UF)
   case Kk=>(intro _;exact Z.UF)
   case Kl=>(intro _;exact Z.of)
   case Km=>(intro _;exact Z.pick rfl rfl)
   refine CH.nil<|?_
   simp only[app,bS]
   refine UQ.then<|S.cT U U<|Q.rg<|Q.as U<|Q.nt<|UW.ret<|UQ.aI<|UQ.ax<|UQ.ax<|UQ.aI<|UQ.ax<|S.bH (λ_=>ak U U)<|?_
   focus (rw[hb];done)
  ·by_cases h0:0<j
   ·have hgp:=Nc ks j hlt h0
    have hpm:ks.getD (j-1) ⟨#[]⟩∈ks:=fI (by omega)
    have hpb:=hks _ hpm
    cases hL:eD (ks.getD (j-1) ⟨#[]⟩) ks[j] with
    |true=>
     have hL2:(!(eD (ks.getD (j-1) ⟨#[]⟩) ks[j]))=false:=by rw[hL];rfl
     have hok:rT ks j=true:=by
      unfold eD at hL
      unfold rT;rw[hge,hL,decide_eq_true (by omega)];simp
     refine S.sq<|Q.rg<|Q.mv U<|Q.mv U<|S.qu (Z.fM aZ U)<|Q.bi U U U<|Q.nt<|S.cT U (decide_eq_true (by omega))<|UW.skip<|UQ.then<|S.sq<|UW.block<|S.sq<|?_
     refine' UW.bG (by kernel_rfl) [0,0,3,7,15,31,63,127,255,511,1023,1023,3071,8191,16383,1023,1023,99327,230399,524287,1048575,2097151,4194303] [some 10,some 11,some 12,some 13,some 14,some 15,some 16,some 17,some 18,some 19,some 20,some 21,some 22,some 23,some 24,some 25,some 26,some 27,some 28,some 29,some 30,some 31,some 32] [some (10,_),some (11,_),some (12,_),some (13,_),some (14,_),some (15,_),some (16,_),some (17,_),some (18,_),some (19,_),some (20,_),some (21,_),some (22,_),some (23,_),some (24,_),some (25,_),some (26,_),some (27,_),some (28,_),some (29,_),some (30,_),some (31,_),some (32,_)] [] [3,14,18] U (by decide) (by decide) (M.free (by decide) U U ?jG (M.free (by decide) U U ?jH (M.free (by decide) U U ?jI (M.held (by decide) U U ?jJ (M.free (by decide) U U ?jK (M.free (by decide) U U ?kE (M.free (by decide) U U ?nK (M.free (by decide) U U ?zD (M.free (by decide) U U ?zF (M.free (by decide) U U ?zG (M.free (by decide) U U ?AY (M.free (by decide) U U ?Kn (M.free (by decide) U U ?Ko (M.free (by decide) U U ?Kq (M.held (by decide) U U ?Kr (M.free (by decide) U U ?Kt (M.free (by decide) U U ?Ku (M.free (by decide) U U ?Kv (M.held (by decide) U U ?Kw (M.free (by decide) U U ?Ky (M.free (by decide) U U ?XT (M.free (by decide) U U ?XU (M.free (by decide) U U ?XV M.nil))))))))))))))))))))))) ?uH
     case jG=>(intro _;exact Z.mv rfl)
     case jH=>(intro _;exact Z.mv rfl)
     case jI=>(intro _;exact Z.ia aZ rfl rfl (by omega) (by assumption) (by rfl))
     case jJ=>exact Z.fO dW rfl
     case jK=>(intro _;exact Z.call rfl rfl (λ_=>jL _ (hks _ (List.getElem_mem hlt)) _))
     case kE=>(intro _;exact Z.tF (Z.bi rfl rfl rfl) (decide_eq_false (by omega)))
     case nK=>(intro _;exact Z.mv rfl)
     case zD=>(intro _;exact Z.on (Z.mv rfl))
     case zF=>(intro _;exact Z.on (Z.tT (Z.bi rfl rfl rfl) (decide_eq_true (by omega))))
     case zG=>(intro _;exact Z.on (Z.mv rfl))
     case AY=>(intro _;exact Z.on (Z.mv rfl))
     case Kn=>(intro _;exact Z.on (Z.mv rfl))
     case Ko=>(intro _;exact Z.on (Z.sub rfl rfl (IntWalk.i64_in _ (by omega))))
     case Kq=>(intro _;exact Z.on (Z.ia aZ rfl rfl (by omega) (by assumption) (by rfl)))
     case Kr=>exact Z.on (Z.fO dW rfl)
     case Kt=>(intro _;exact Z.on (Z.mv rfl))
     case Ku=>(intro _;exact Z.on (Z.mv rfl))
     case Kv=>(intro _;exact Z.on (Z.ia aZ rfl rfl (by omega) (by assumption) (by rfl)))
     case Kw=>exact Z.on (Z.fO dW rfl)
     case Ky=>(intro _;exact Z.on (Z.tT (Z.call rfl rfl (λ_=>uG _ _ hpb _)) (by assumption)))
     case XT=>(intro _;exact Z.on (Z.not rfl))
     case XU=>(intro _;exact Z.on (Z.pick rfl rfl))
     case XV=>(intro _;exact Z.pick rfl rfl)
     refine CH.nil<|?_
     simp only[app,bS]
     refine UQ.then<|S.cF U U<|UW.skip<|UQ.aB<|UQ.then<|S.rg<|Q.mv U<|S.qu (Z.add (r:=((j+1:Nat):Int)) U U (IntWalk.i64_in _ (by omega)))<|Q.as U<|US.nil<|?_
     refine S.back _ ⟨rfl,rfl,trivial⟩ (.refl _) ?_ (by omega)
     focus (exact⟨by omega,good hok⟩;done)
    |false=>
     have hL2:(!(eD (ks.getD (j-1) ⟨#[]⟩) ks[j]))=true:=by rw[hL];rfl
     have hb:=bad (by
      unfold eD at hL
      unfold rT;rw[hge,hL,decide_eq_false (by omega:¬j=0)];simp)
     refine S.sq<|Q.rg<|Q.mv U<|Q.mv U<|S.qu (Z.fM aZ U)<|Q.bi U U U<|Q.nt<|S.cT U (decide_eq_true (by omega))<|UW.skip<|UQ.then<|S.sq<|UW.block<|S.sq<|?_
     refine' UW.bG (by kernel_rfl) [0,0,3,7,15,31,63,127,255,511,1023,1023,3071,8191,16383,1023,1023,99327,230399,524287,1048575,2097151,4194303] [some 10,some 11,some 12,some 13,some 14,some 15,some 16,some 17,some 18,some 19,some 20,some 21,some 22,some 23,some 24,some 25,some 26,some 27,some 28,some 29,some 30,some 31,some 32] [some (10,_),some (11,_),some (12,_),some (13,_),some (14,_),some (15,_),some (16,_),some (17,_),some (18,_),some (19,_),some (20,_),some (21,_),some (22,_),some (23,_),some (24,_),some (25,_),some (26,_),some (27,_),some (28,_),some (29,_),some (30,_),some (31,_),some (32,_)] [] [3,14,18] U (by decide) (by decide) (M.free (by decide) U U ?uM (M.free (by decide) U U ?uN (M.free (by decide) U U ?uO (M.held (by decide) U U ?uP (M.free (by decide) U U ?uQ (M.free (by decide) U U ?zH (M.free (by decide) U U ?zI (M.free (by decide) U U ?zJ (M.free (by decide) U U ?zK (M.free (by decide) U U ?zL (M.free (by decide) U U ?uR (M.free (by decide) U U ?Kz (M.free (by decide) U U ?KA (M.free (by decide) U U ?KC (M.held (by decide) U U ?KD (M.free (by decide) U U ?KE (M.free (by decide) U U ?KF (M.free (by decide) U U ?KG (M.held (by decide) U U ?KH (M.free (by decide) U U ?KI (M.free (by decide) U U ?KJ (M.free (by decide) U U ?KL (M.free (by decide) U U ?KM M.nil))))))))))))))))))))))) ?KN
     case uM=>(intro _;exact Z.mv rfl)
     case uN=>(intro _;exact Z.mv rfl)
     case uO=>(intro _;exact Z.ia aZ rfl rfl (by omega) (by assumption) (by rfl))
     case uP=>exact Z.fO dW rfl
     case uQ=>(intro _;exact Z.call rfl rfl (λ_=>jL _ (hks _ (List.getElem_mem hlt)) _))
     case zH=>(intro _;exact Z.tF (Z.bi rfl rfl rfl) (decide_eq_false (by omega)))
     case zI=>(intro _;exact Z.mv rfl)
     case zJ=>(intro _;exact Z.on (Z.mv rfl))
     case zK=>(intro _;exact Z.on (Z.tT (Z.bi rfl rfl rfl) (decide_eq_true (by omega))))
     case zL=>(intro _;exact Z.on (Z.mv rfl))
     case uR=>(intro _;exact Z.on (Z.mv rfl))
     case Kz=>(intro _;exact Z.on (Z.mv rfl))
     case KA=>(intro _;exact Z.on (Z.sub rfl rfl (IntWalk.i64_in _ (by omega))))
     case KC=>(intro _;exact Z.on (Z.ia aZ rfl rfl (by omega) (by assumption) (by rfl)))
     case KD=>exact Z.on (Z.fO dW rfl)
     case KE=>(intro _;exact Z.on (Z.mv rfl))
     case KF=>(intro _;exact Z.on (Z.mv rfl))
     case KG=>(intro _;exact Z.on (Z.ia aZ rfl rfl (by omega) (by assumption) (by rfl)))
     case KH=>exact Z.on (Z.fO dW rfl)
     case KI=>(intro _;exact Z.on (Z.tF (Z.call rfl rfl (λ_=>uG _ _ hpb _)) (by assumption)))
     case KJ=>(intro _;exact Z.on (Z.not rfl))
     case KL=>(intro _;exact Z.on (Z.pick rfl rfl))
     case KM=>(intro _;exact Z.pick rfl rfl)
     refine CH.nil<|?_
     simp only[app,bS]
     refine UQ.then<|S.cT U U<|Q.rg<|Q.as U<|Q.nt<|UW.ret<|UQ.aI<|UQ.ax<|UQ.ax<|UQ.aI<|UQ.ax<|S.bH (λ_=>ak U U)<|?_
     focus (rw[hb];done)
   ·have hok:rT ks j=true:=by unfold rT;rw[hge,decide_eq_true (by omega:j=0),decide_eq_true (by omega)];rfl
    refine S.sq<|Q.rg<|Q.mv U<|Q.mv U<|S.qu (Z.fM aZ U)<|Q.bi U U U<|Q.nt<|S.cT U (decide_eq_true (by omega))<|UW.skip<|UQ.then<|S.sq<|UW.block<|S.sq<|?_
    refine' UW.bG (by kernel_rfl) [0,0,3,7,15,31,63,127,255,511,1023,1023,3071,8191,16383,1023,1023,99327,230399,524287,1048575,2097151,4194303] [some 10,some 11,some 12,some 13,some 14,some 15,some 16,some 17,some 18,some 19,some 20,some 21,some 22,some 23,some 24,some 25,some 26,some 27,some 28,some 29,some 30,some 31,some 32] [some (10,_),some (11,_),some (12,_),some (13,_),some (14,_),some (15,_),some (16,_),some (17,_),some (18,_),some (19,_),some (20,_),some (21,_),some (22,_),some (23,_),some (24,_),some (25,_),some (26,_),some (27,_),some (28,_),some (29,_),some (30,_),some (31,_),some (32,_)] [] [3,14,18] U (by decide) (by decide) (M.free (by decide) U U ?nA (M.free (by decide) U U ?nC (M.free (by decide) U U ?nD (M.held (by decide) U U ?nE (M.free (by decide) U U ?qC (M.free (by decide) U U ?qp (M.free (by decide) U U ?qw (M.free (by decide) U U ?qx (M.free (by decide) U U ?y8 (M.free (by decide) U U ?y9 (M.free (by decide) U U ?AZ (M.free (by decide) U U ?KO (M.free (by decide) U U ?KP (M.free (by decide) U U ?KQ (M.held (by decide) U U ?KR (M.free (by decide) U U ?KS (M.free (by decide) U U ?KT (M.free (by decide) U U ?KU (M.held (by decide) U U ?KV (M.free (by decide) U U ?KW (M.free (by decide) U U ?XW (M.free (by decide) U U ?XX (M.free (by decide) U U ?XY M.nil))))))))))))))))))))))) ?Cf
    case nA=>(intro _;exact Z.mv rfl)
    case nC=>(intro _;exact Z.mv rfl)
    case nD=>(intro _;exact Z.ia aZ rfl rfl (by omega) (by assumption) (by rfl))
    case nE=>exact Z.fO dW rfl
    case qC=>(intro _;exact Z.call rfl rfl (λ_=>jL _ (hks _ (List.getElem_mem hlt)) _))
    case qp=>(intro _;exact Z.tF (Z.bi rfl rfl rfl) (decide_eq_false (by omega)))
    case qw=>(intro _;exact Z.mv rfl)
    case qx=>(intro _;exact Z.on (Z.mv rfl))
    case y8=>(intro _;exact Z.on (Z.tF (Z.bi rfl rfl rfl) (decide_eq_false (by omega))))
    case y9=>(intro _;exact Z.on (Z.mv rfl))
    case AZ=>(intro _;exact Z.of)
    case KO=>(intro _;exact Z.of)
    case KP=>(intro _;exact Z.of)
    case KQ=>(intro _;exact Z.of)
    case KR=>exact Z.of
    case KS=>(intro _;exact Z.of)
    case KT=>(intro _;exact Z.of)
    case KU=>(intro _;exact Z.of)
    case KV=>exact Z.of
    case KW=>(intro _;exact Z.of)
    case XW=>(intro _;exact Z.of)
    case XX=>(intro _;exact Z.on (Z.pick rfl rfl))
    case XY=>(intro _;exact Z.pick rfl rfl)
    refine CH.nil<|?_
    simp only[app,bS]
    refine UQ.then<|S.cF U U<|UW.skip<|UQ.aB<|UQ.then<|S.rg<|Q.mv U<|S.qu (Z.add (r:=((j+1:Nat):Int)) U U (IntWalk.i64_in _ (by omega)))<|Q.as U<|US.nil<|?_
    refine S.back _ ⟨rfl,rfl,trivial⟩ (.refl _) ?_ (by omega)
    focus (exact⟨by omega,good hok⟩;done)
 ·refine S.sq<|Q.rg<|Q.mv U<|Q.mv U<|S.qu (Z.fM aZ U)<|Q.bi U U U<|Q.nt<|S.cF U (decide_eq_false (by omega))<|UW.exit<|UQ.pass<|UQ.pass<|UQ.here<|UQ.then<|Q.rg<|Q.as U<|Q.nt<|UW.ret<|S.bH (λ_=>ak U U)<|?_
  have:oM ks=true:=by
   unfold oM
   rw[List.all_eq_true]
   exactλi hi=>hjj i (by have:=List.mem_range.1 hi;omega)
  rw[this]
inductive Tx:V->Prop
 |mk (k n:Int) (t:ByteArray) (ks:List ByteArray) (vs:List V) (h1:t.size<=4000000) (h2:∀s∈ks,s.size<=4000000) (h:∀x∈vs,Tx x):Tx (.mk k n t ks vs)
theorem Tx.tx{k n:Int}{t:ByteArray}{ks:List ByteArray}{vs:List V}(h:Tx (.mk k n t ks vs)):t.size<=4000000:=by cases h;assumption
theorem Tx.keys{k n:Int}{t:ByteArray}{ks:List ByteArray}{vs:List V}(h:Tx (.mk k n t ks vs)):∀s∈ks,s.size<=4000000:=by cases h;assumption
theorem Tx.vals{k n:Int}{t:ByteArray}{ks:List ByteArray}{vs:List V}(h:Tx (.mk k n t ks vs)):∀x∈vs,Tx x:=by cases h;assumption
def sK(k:Int)(t:ByteArray):Bool:=!(!(t.toList==(⟨#[]⟩:ByteArray).toList)&&(!(k==3)||decide (0<=RN t)))
section
variable {k n:Int} {t:ByteArray} {ks:List ByteArray} {vs:List V}
theorem lM:dS (.mk k n t ks vs)=((decide (0<=k)&&decide (k<=5)&&AP (.mk k n t ks vs)&&uE (.mk k n t ks vs))&&sK k t&&!(decide (k<4)&&decide ((0:Int)<vs.length))&&nW vs):=by rw[dS];rfl
theorem zM:AP (.mk k n t ks vs)=if k=1 then(n==0||n==1) else if k=2 then(decide (-9007199254740991<=n)&&decide (n<=9007199254740991)) else(n==0):=rfl
theorem PS(h:(k=1->n=0\/n=1)/\(k=2-> -9007199254740991<=n/\n<=9007199254740991)/\(k≠1->k≠2->n=0)):AP (.mk k n t ks vs)=true:=by
 rw[zM]
 split
 ·rename_i h1;rcases h.1 h1 with h2|h2<;>simp[h2]
 ·split
  ·rename_i h1 h2;have:=h.2.1 h2;simp;omega
  ·rename_i h1 h2;simp[h.2.2 h1 h2]
theorem PT(h:(k=1/\n≠0/\n≠1)\/(k=2/\(n< -9007199254740991\/9007199254740991<n))\/(k≠1/\k≠2/\n≠0)):AP (.mk k n t ks vs)=false:=by
 rw[zM]
 split
 ·rename_i h1;simp;omega
 ·split
  ·rename_i h1 h2;simp;omega
  ·rename_i h1 h2;simp;omega
theorem pV(h:k<0\/5<k\/(k=1/\n≠0/\n≠1)\/(k=2/\(n< -9007199254740991\/9007199254740991<n))\/(k≠1/\k≠2/\n≠0)):dS (.mk k n t ks vs)=false:=by
 rw[lM]
 rcases h with h|h|h
 ·rw[decide_eq_false (by omega:¬0<=k)];simp
 ·rw[decide_eq_false (by omega:¬k<=5)];simp
 ·rw[PT h];simp
theorem IY(h:sK k t=false):dS (.mk k n t ks vs)=false:=by rw[lM,h];simp
theorem Cm(h:uE (.mk k n t ks vs)=false):dS (.mk k n t ks vs)=false:=by rw[lM,h];simp
theorem Tp(h1:k<4)(h2:0<vs.length):dS (.mk k n t ks vs)=false:=by rw[lM,decide_eq_true h1,decide_eq_true (by omega:(0:Int)<vs.length)];simp
theorem IZ(h:nW vs=false):dS (.mk k n t ks vs)=false:=by rw[lM,h];simp
theorem I1(h1:0<=k)(h2:k<=5)(h3:(k=1->n=0\/n=1)/\(k=2-> -9007199254740991<=n/\n<=9007199254740991)/\(k≠1->k≠2->n=0))(h4:sK k t=true)(h5:uE (.mk k n t ks vs)=true)(h6:¬(k<4/\0<vs.length))(h7:nW vs=true):dS (.mk k n t ks vs)=true:=by
 rw[lM,PS h3,h4,h5,h7,decide_eq_true h1,decide_eq_true h2]
 by_cases h:k<4
 ·rw[decide_eq_false (by omega:¬(0:Int)<vs.length)];simp
 ·rw[decide_eq_false h];simp
theorem uT(h:k=5):uE (.mk k n t ks vs)=(oM ks&&((ks.length:Int)==(vs.length:Int))):=by unfold uE oM;simp[V.k,V.ks,V.vs,h]
theorem Dn(h:k≠5):uE (.mk k n t ks vs)=((ks.length:Int)==0):=by unfold uE;simp[V.k,V.ks,h]
end
theorem FB{vs:List V}{j:Nat}(h:j<vs.length)(hr:dS vs[j]=false):nW vs=false:=by
 rw[zn]
 have:vs.any (λx=>!dS x)=true:=by rw[List.any_eq_true];exact⟨_,List.getElem_mem h,by simp[hr]⟩
 rw[this];rfl
theorem Dp{vs:List V}(h:∀(j:Nat) (h:j<vs.length),dS vs[j]=true):nW vs=true:=by
 rw[zn]
 have:vs.any (λx=>!dS x)=false:=by
  rw[List.any_eq_false]
  intro x hx
  obtain⟨j,hj,rfl⟩:=List.getElem_of_mem hx
  simp[h j hj]
 rw[this];rfl
theorem Dq(x:V)(hx:Fits x):∀(htx:Tx x) (H:Hp),au Tryz.prog 118 [.agg (aC x)] H (bB H (.v (.bool (dS x)))):=by
 induction hx with
 |mk k n t ks vs h1 h2 h ih=>
 intro htx H
 have hvl:=aS vs
 have hkl:(ks.map encS).length=ks.length:=List.length_map ..
 refine aF (n:=118) (H0:=H) (I:=[]) Tryz.func118 (by kernel_rfl) U (by rw[Tryz.ntmps118];rfl) .nil<|?_
 refine Q.rg<|S.dd<|D.box U U U λp1=>Q.as U<|Q.nt<|?_
 refine S.cut [(1,.ptr p1 0)] [(p1,.box 26 (aC (.mk k n t ks vs)))] (0<=k/\k<=5/\(k=1->n=0\/n=1)/\(k=2-> -9007199254740991<=n/\n<=9007199254740991)/\(k≠1->k≠2->n=0)) ?_ (λhJ1=>?_)
 refine Q.rg<|Q.fa bT U<|Q.lc 0 fB U U U<|Q.bi U U U<|Q.mv U<|?_
 refine S.tD 7 (λVu=>?_) (λVu=>?_)
 refine Q.of<|Q.of<|Q.of<|Q.pk U U<|Q.mv U<|Q.of<|Q.of<|Q.of<|Q.of<|Q.ou<|Q.ou<|Q.ou<|Q.of<|Q.of<|Q.ou<|Q.ou<|Q.ou<|Q.of<|Q.pk U U<|Q.mv U<|Q.of<|Q.of<|Q.of<|Q.of<|Q.ou<|Q.ou<|Q.ou<|Q.of<|Q.of<|Q.ou<|Q.ou<|Q.ou<|Q.of<|Q.pk U U<|Q.mv U<|Q.of<|Q.of<|Q.of<|Q.pk U U<|Q.mv U<|?_
 refine Q.of<|Q.of<|Q.of<|Q.pk U U<|Q.nt<|S.cT U U<|Q.rg<|Q.as U<|Q.nt<|UW.ret<|UQ.ax<|S.bH (λ_=>ak U U)<|?_
 focus (rw[pV (by omega)];done)
 refine Q.on (Z.fa bT U)<|Q.on (Z.dM 0 fB U U U)<|Q.on (Z.bi U U U)<|Q.pk U U<|Q.mv U<|?_
 refine S.tD 12 (λCj=>?_) (λCj=>?_)
 refine Q.of<|Q.of<|Q.of<|Q.of<|Q.ou<|Q.ou<|Q.ou<|Q.of<|Q.of<|Q.ou<|Q.ou<|Q.ou<|Q.of<|Q.pk U U<|Q.mv U<|Q.of<|Q.of<|Q.of<|Q.of<|Q.ou<|Q.ou<|Q.ou<|Q.of<|Q.of<|Q.ou<|Q.ou<|Q.ou<|Q.of<|Q.pk U U<|Q.mv U<|Q.of<|Q.of<|Q.of<|Q.pk U U<|Q.mv U<|Q.of<|Q.of<|Q.of<|Q.pk U U<|Q.nt<|?_
 refine S.cT U U<|Q.rg<|Q.as U<|Q.nt<|UW.ret<|UQ.ax<|S.bH (λ_=>ak U U)<|?_
 focus (rw[pV (by omega)];done)
 refine Q.on (Z.fa jf U)<|Q.on (Z.dM 0 lg U U U)<|Q.on (Z.bi U U U)<|Q.on (Z.mv U)<|?_
 refine S.tO 16 (λhc16=>?_) (λhc16=>?_)
 refine Q.on (Z.fa bT U)<|Q.on (Z.dM 0 fB U U U)<|Q.on (Z.bi U U U)<|Q.on (Z.pick U U)<|Q.on (Z.mv U)<|?_
 refine S.tO 21 (λhc21=>?_) (λhc21=>?_)
 refine Q.on (Z.fa bT U)<|Q.on (Z.dM 0 fB U U U)<|Q.on (Z.bi U U U)<|Q.on (Z.pick U U)<|Q.pk U U<|Q.mv U<|?_
 refine S.tO 27 (λhc27=>?_) (λhc27=>?_)
 refine Q.of<|Q.of<|Q.of<|Q.of<|Q.ou<|Q.ou<|Q.ou<|Q.of<|Q.of<|Q.ou<|Q.ou<|Q.ou<|Q.of<|Q.pk U U<|Q.mv U<|Q.of<|Q.of<|Q.of<|Q.pk U U<|Q.mv U<|Q.of<|Q.of<|Q.of<|Q.pk U U<|Q.nt<|S.cT U U<|Q.rg<|Q.as U<|Q.nt<|UW.ret<|UQ.ax<|S.bH (λ_=>ak U U)<|?_
 focus (rw[pV (by omega)];done)
 refine Q.on (Z.fa bT U)<|Q.on (Z.dM 0 fB U U U)<|Q.on (Z.bi U U U)<|Q.on (Z.mv U)<|S.tF 31 (gG (by omega))<|Q.of<|Q.of<|Q.of<|Q.on (Z.pick U U)<|Q.on (Z.mv U)<|Q.of<|Q.of<|Q.of<|Q.on (Z.pick U U)<|Q.pk U U<|Q.mv U<|Q.on (Z.fa jf U)<|Q.on (Z.dM 0 lg U U U)<|Q.on (Z.bi U U U)<|Q.pk U U<|Q.mv U<|?_
 refine S.tD 47 (λhc47=>?_) (λhc47=>?_)
 refine Q.of<|Q.of<|Q.of<|Q.pk U U<|Q.nt<|S.cT U U<|Q.rg<|Q.as U<|Q.nt<|UW.ret<|UQ.ax<|S.bH (λ_=>ak U U)<|?_
 focus (rw[pV (by omega)];done)
 refine Q.on (Z.fa jf U)<|Q.on (Z.dM 0 lg U U U)<|Q.on (Z.bi U U U)<|Q.pk U U<|Q.nt<|?_
 refine S.cD U (λFC=>?_) (λFC=>?_)
 refine Q.rg<|Q.as U<|Q.nt<|UW.ret<|UQ.ax<|S.bH (λ_=>ak U U)<|?_
 focus (rw[pV (by omega)];done)
 refine UW.skip<|?_
 refine S.fin ⟨rfl,trivial⟩ (.refl _) (by omega)
 refine Q.of<|Q.of<|Q.of<|Q.on (Z.pick U U)<|Q.pk U U<|Q.mv U<|Q.on (Z.fa bT U)<|Q.on (Z.dM 0 fB U U U)<|Q.on (Z.bi U U U)<|Q.on (Z.mv U)<|S.tT 31 (jP (by omega))<|Q.on (Z.fa jf U)<|Q.on (Z.dM 0 lg U U U)<|Q.on (Z.bi U U U)<|Q.on (Z.pick U U)<|Q.on (Z.mv U)<|S.tT 36 (rP (by omega))<|Q.on (Z.fa jf U)<|Q.on (Z.dM 0 lg U U U)<|Q.on (Z.bi U U U)<|Q.on (Z.pick U U)<|Q.pk U U<|Q.mv U<|?_
 refine S.tO 42 (λKX=>?_) (λKX=>?_)
 refine Q.of<|Q.of<|Q.of<|Q.pk U U<|Q.mv U<|Q.of<|Q.of<|Q.of<|Q.pk U U<|Q.nt<|S.cT U U<|Q.rg<|Q.as U<|Q.nt<|UW.ret<|UQ.ax<|S.bH (λ_=>ak U U)<|?_
 focus (rw[pV (by omega)];done)
 refine Q.on (Z.fa jf U)<|Q.on (Z.dM 0 lg U U U)<|Q.on (Z.bi U U U)<|Q.pk U U<|Q.mv U<|?_
 refine S.tD 47 (λhc47=>?_) (λhc47=>?_)
 omega
 refine Q.on (Z.fa jf U)<|Q.on (Z.dM 0 lg U U U)<|Q.on (Z.bi U U U)<|Q.pk U U<|Q.nt<|S.cF U (decide_eq_false (by omega))<|UW.skip<|?_
 refine S.fin ⟨rfl,trivial⟩ (.refl _) (by omega)
 refine Q.of<|Q.of<|Q.of<|Q.on (Z.pick U U)<|Q.on (Z.mv U)<|Q.of<|Q.of<|Q.of<|Q.on (Z.pick U U)<|Q.pk U U<|Q.mv U<|Q.on (Z.fa bT U)<|Q.on (Z.dM 0 fB U U U)<|Q.on (Z.bi U U U)<|Q.on (Z.mv U)<|?_
 refine S.tE 31 (λhc31=>?_) (λhc31=>?_)
 refine Q.on (Z.fa jf U)<|Q.on (Z.dM 0 lg U U U)<|Q.on (Z.bi U U U)<|Q.on (Z.pick U U)<|Q.on (Z.mv U)<|?_
 refine S.tO 36 (λXZ=>?_) (λXZ=>?_)
 omega
 refine Q.of<|Q.of<|Q.of<|Q.on (Z.pick U U)<|Q.pk U U<|Q.mv U<|Q.on (Z.fa jf U)<|Q.on (Z.dM 0 lg U U U)<|Q.on (Z.bi U U U)<|Q.pk U U<|Q.mv U<|?_
 refine S.tD 47 (λhc47=>?_) (λhc47=>?_)
 omega
 refine Q.on (Z.fa jf U)<|Q.on (Z.dM 0 lg U U U)<|Q.on (Z.bi U U U)<|Q.pk U U<|Q.nt<|S.cF U (decide_eq_false (by omega))<|UW.skip<|?_
 refine S.fin ⟨rfl,trivial⟩ (.refl _) (by omega)
 refine Q.of<|Q.of<|Q.of<|Q.on (Z.pick U U)<|Q.on (Z.mv U)<|Q.of<|Q.of<|Q.of<|Q.on (Z.pick U U)<|Q.pk U U<|Q.mv U<|Q.on (Z.fa jf U)<|Q.on (Z.dM 0 lg U U U)<|Q.on (Z.bi U U U)<|Q.pk U U<|Q.mv U<|?_
 refine S.tD 47 (λhc47=>?_) (λhc47=>?_)
 omega
 refine Q.on (Z.fa jf U)<|Q.on (Z.dM 0 lg U U U)<|Q.on (Z.bi U U U)<|Q.pk U U<|Q.nt<|S.cF U (decide_eq_false (by omega))<|UW.skip<|?_
 refine S.fin ⟨rfl,trivial⟩ (.refl _) (by omega)
 refine S.cut [(1,.ptr p1 0)] [(p1,.box 26 (aC (.mk k n t ks vs)))] (sK k t=true) ?_ (λhJ2=>?_)
 refine Q.rg<|Q.fa kY U<|Q.lc 0 dW U U U<|S.qu (Z.bs U U U)<|Q.mv U<|?_
 refine S.tO 55 (λKY=>?_) (λKY=>?_)
 refine Q.on (Z.fa bT U)<|Q.on (Z.dM 0 fB U U U)<|Q.on (Z.bi U U U)<|Q.on (Z.mv U)<|?_
 refine S.tO 59 (λhc59=>?_) (λhc59=>?_)
 refine Q.of<|Q.of<|Q.of<|Q.of<|Q.on (Z.pick U U)<|Q.pk U U<|Q.nt<|S.cT U U<|Q.rg<|Q.as U<|Q.nt<|UW.ret<|UQ.ax<|S.bH (λ_=>ak U U)<|?_
 focus (rw[IY (by unfold sK;simp_all)];done)
 refine Q.on (Z.fa kY U)<|Q.on (Z.dM 0 dW U U U)<|Q.on (Z.call U U (λ_=>jL _ htx.tx _))<|Q.on (Z.bi U U U)<|Q.on (Z.pick U U)<|Q.pk U U<|Q.nt<|?_
 refine S.cD U (λFD=>?_) (λFD=>?_)
 refine Q.rg<|Q.as U<|Q.nt<|UW.ret<|UQ.ax<|S.bH (λ_=>ak U U)<|?_
 focus (rw[IY (by unfold sK;simp_all)];done)
 refine UW.skip<|?_
 refine S.fin ⟨rfl,trivial⟩ (.refl _) (by unfold sK;simp_all;done)
 refine Q.of<|Q.of<|Q.of<|Q.of<|Q.ou<|Q.ou<|Q.ou<|Q.ou<|Q.of<|Q.pk U U<|Q.nt<|S.cF U U<|UW.skip<|?_
 refine S.fin ⟨rfl,trivial⟩ (.refl _) (by unfold sK;simp_all;done)
 refine S.cut [(1,.ptr p1 0)] [(p1,.box 26 (aC (.mk k n t ks vs)))] (uE (.mk k n t ks vs)=true) ?_ (λhJ3=>?_)
 refine Q.rg<|Q.fa bT U<|Q.lc 0 fB U U U<|Q.bi U U U<|Q.mv U<|?_
 refine S.tO 69 (λhc69=>?_) (λhc69=>?_)
 refine Q.on (Z.fa dJ U)<|Q.on (Z.dM 0 dB U U U)<|Q.on (Z.fM aZ U)<|Q.on (Z.bi U U U)<|Q.pk U U<|Q.mv U<|?_
 refine S.tD 75 (λFE=>?_) (λFE=>?_)
 refine Q.of<|Q.of<|Q.of<|Q.of<|Q.ou<|Q.ou<|Q.ou<|Q.ou<|Q.ou<|Q.ou<|Q.ou<|Q.ou<|Q.ou<|Q.ou<|Q.ou<|Q.ou<|Q.ou<|Q.of<|Q.pk U U<|Q.nt<|S.cT U U<|Q.rg<|Q.as U<|Q.nt<|UW.ret<|UQ.ax<|S.bH (λ_=>ak U U)<|?_
 focus (rw[Cm (by rw[Dn (by omega),gG (by omega)])];done)
 refine Q.on (Z.fa bT U)<|Q.on (Z.dM 0 fB U U U)<|Q.on (Z.bi U U U)<|Q.on (Z.mv U)<|S.tF 79 (gG (by omega))<|Q.of<|Q.of<|Q.of<|Q.of<|Q.of<|Q.of<|Q.of<|Q.of<|Q.ou<|Q.ou<|Q.ou<|Q.ou<|Q.of<|Q.on (Z.pick U U)<|Q.pk U U<|Q.nt<|S.cF U U<|UW.skip<|?_
 refine S.fin ⟨rfl,trivial⟩ (.refl _) (by rw[Dn (by omega),jP (by omega)])
 refine Q.of<|Q.of<|Q.of<|Q.of<|Q.pk U U<|Q.mv U<|Q.on (Z.fa bT U)<|Q.on (Z.dM 0 fB U U U)<|Q.on (Z.bi U U U)<|Q.on (Z.mv U)<|S.tT 79 (jP (by omega))<|Q.on (Z.fa dJ U)<|Q.on (Z.dM 0 dB U U U)<|Q.on (Z.fM aZ U)<|Q.on (Z.fa bU U)<|Q.on (Z.dM 0 dR U U U)<|Q.on (Z.fM bP U)<|Q.on (Z.bi U U U)<|Q.on (Z.mv U)<|?_
 refine S.tO 87 (λhc87=>?_) (λhc87=>?_)
 refine Q.of<|Q.of<|Q.of<|Q.of<|Q.on (Z.pick U U)<|Q.on (Z.pick U U)<|Q.pk U U<|Q.nt<|S.cT U U<|Q.rg<|Q.as U<|Q.nt<|UW.ret<|UQ.ax<|S.bH (λ_=>ak U U)<|?_
 focus (rw[Cm (by rw[uT (by omega)];simp_all)];done)
 refine Q.on (Z.fa dJ U)<|Q.on (Z.dM 0 dB U U U)<|Q.on (Z.call U U (λ_=>PR _ h1 htx.keys _))<|Q.on (Z.not U)<|Q.on (Z.pick U U)<|Q.on (Z.pick U U)<|Q.pk U U<|Q.nt<|?_
 refine S.cB U (λhc94=>?_) (λhc94=>?_)
 refine Q.rg<|Q.as U<|Q.nt<|UW.ret<|UQ.ax<|S.bH (λ_=>ak U U)<|?_
 focus (rw[Cm (by rw[uT (by omega)];simp_all)];done)
 refine UW.skip<|?_
 refine S.fin ⟨rfl,trivial⟩ (.refl _) (by rw[uT (by omega)];simp_all;done)
 refine S.cut [(1,.ptr p1 0)] [(p1,.box 26 (aC (.mk k n t ks vs)))] (¬(k<4/\0<vs.length)) ?_ (λhJ4=>?_)
 refine Q.rg<|Q.fa bT U<|Q.lc 0 fB U U U<|Q.bi U U U<|Q.mv U<|?_
 refine S.tD 98 (λhc98=>?_) (λhc98=>?_)
 refine Q.on (Z.fa bU U)<|Q.on (Z.dM 0 dR U U U)<|Q.on (Z.fM bP U)<|Q.on (Z.bi U U U)<|Q.pk U U<|Q.nt<|?_
 refine S.cD U (λhc103=>?_) (λhc103=>?_)
 refine Q.rg<|Q.as U<|Q.nt<|UW.ret<|UQ.ax<|S.bH (λ_=>ak U U)<|?_
 focus (rw[Tp (by omega) (by omega)];done)
 refine UW.skip<|?_
 refine S.fin ⟨rfl,trivial⟩ (.refl _) (by omega)
 refine Q.of<|Q.of<|Q.of<|Q.of<|Q.pk U U<|Q.nt<|S.cF U U<|UW.skip<|?_
 refine S.fin ⟨rfl,trivial⟩ (.refl _) (by omega)
 refine S.sq<|Q.rg<|Q.as U<|Q.nt<|UW.block<|S.loop (λj:Nat=>[(3,.v (.int .i64 (j:Int))),(1,.ptr p1 0)]) (λ_=>[(p1,.box 26 (aC (.mk k n t ks vs)))]) (λj=>j<=vs.length/\∀(i:Nat) (h:i<vs.length),i<j->dS vs[i]=true) (λj=>vs.length-j) 0 ⟨Nat.zero_le _,λi _ h=>absurd h (by omega)⟩ ⟨rfl,rfl,trivial⟩ (.refl _)<|?_
 rintro j ⟨hj,hjj⟩
 by_cases hlt:j<vs.length
 ·have hgl:=gH vs j hlt
  have hrec:=λH=>ih _ (List.getElem_mem hlt) (htx.vals _ (List.getElem_mem hlt)) H
  cases hR:dS vs[j] with
  |true=>
   refine S.sq<|Q.rg<|Q.mv U<|Q.fa bU U<|Q.lc 0 dR U U U<|S.qu (Z.fM bP U)<|Q.bi U U U<|Q.nt<|S.cT U (decide_eq_true (by omega))<|UW.skip<|UQ.then<|S.sq<|UW.block<|Q.rg<|Q.fa bU U<|Q.lc 0 dR U U U<|Q.mv U<|S.qu (Z.ia bP U U (by omega) (by assumption) (by exact Y _))<|?_
   refine S.qu (Z.IG av U (Y _))<|S.qu (Z.eq (Z.call U U hrec) (by rw[hR]))<|?_
   refine S.qu (Z.not U)<|Q.nt<|S.cF U U<|UW.skip<|UQ.aB<|UQ.then<|S.rg<|Q.mv U<|S.qu (Z.add (r:=((j+1:Nat):Int)) U U (IntWalk.i64_in _ (by omega)))<|Q.as U<|US.nil<|?_
   refine S.back _ ⟨rfl,rfl,trivial⟩ (.refl _) ?_ (by omega)
   refine⟨by omega,λi h3 h4=>?_⟩
   by_cases hij:i=j
   ·subst hij;exact hR
   ·exact hjj i h3 (by omega)
  |false=>
   refine S.sq<|Q.rg<|Q.mv U<|Q.fa bU U<|Q.lc 0 dR U U U<|S.qu (Z.fM bP U)<|Q.bi U U U<|Q.nt<|S.cT U (decide_eq_true (by omega))<|UW.skip<|UQ.then<|S.sq<|UW.block<|Q.rg<|Q.fa bU U<|Q.lc 0 dR U U U<|Q.mv U<|S.qu (Z.ia bP U U (by omega) (by assumption) (by exact Y _))<|?_
   refine S.qu (Z.IG av U (Y _))<|S.qu (Z.eq (Z.call U U hrec) (by rw[hR]))<|?_
   refine S.qu (Z.not U)<|Q.nt<|S.cT U U<|Q.rg<|Q.as U<|Q.nt<|UW.ret<|UQ.aI<|UQ.ax<|UQ.ax<|UQ.aI<|UQ.ax<|S.bH (λ_=>ak U U)<|?_
   focus (rw[IZ (FB hlt hR)];done)
 ·refine S.sq<|Q.rg<|Q.mv U<|Q.fa bU U<|Q.lc 0 dR U U U<|S.qu (Z.fM bP U)<|Q.bi U U U<|Q.nt<|S.cF U (decide_eq_false (by omega))<|UW.exit<|UQ.pass<|UQ.pass<|UQ.here<|UQ.then<|Q.rg<|Q.as U<|Q.nt<|UW.ret<|S.bH (λ_=>ak U U)<|?_
  focus (rw[I1 hJ1.1 hJ1.2.1 hJ1.2.2 hJ2 hJ3 hJ4 (Dp λi hi=>hjj i hi (by omega))];done)
end Go.Proofs.YtonpfomjoiaacaaGreatDoor
end
