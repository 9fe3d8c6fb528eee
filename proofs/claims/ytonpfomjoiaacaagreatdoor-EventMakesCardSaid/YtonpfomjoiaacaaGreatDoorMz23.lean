/- A part of the proof. -/
import Derived.Test.YtonpfomjoiaacaaGreatDoorMz21
import Derived.Test.YtonpfomjoiaacaaGreatDoorMz22
import Derived.Lib.ItoaLen
import Derived.Test.YtonpfomjoiaacaaGreatDoorMz20
set_option maxRecDepth 100000
set_option maxHeartbeats 4000000
set_option linter.unusedSectionVars false
set_option linter.unusedVariables false
set_option linter.unusedSimpArgs false
section
namespace Go.Proofs.YtonpfomjoiaacaaGreatDoor
open Go Go.fT Go.RowKit
def TabAt(H:Hp)(i:Nat)(name:String)(k:IntKind)(zs:List Int):Prop:=∃g t p,Tryz.prog.globalNamed name=some g/\H i=some (.raw g (.cells (zs.map λz=>Value.int k z).toArray t p))
def gU(H:Hp):Prop:=TabAt H 0 "internal/strconv.uint64pow10" .u64 Lib.pow10Tab/\TabAt H 1 "strings.asciiSpace" .u8 Lib.asciiSpaceTab
theorem TabAt.tab{H:Hp}{i:Nat}{name:String}{k:IntKind}{zs:List Int}(h:TabAt H i name k zs){ρ:gz}{w:World}(hh:dN ρ H w):Lib.TabIs Tryz.prog w name k zs:=by
 obtain⟨g,t,p,h1,h2⟩:=h
 unfold Lib.TabIs World.var?
 rw[h1]
 simp only[Option.bind_some,hh.raw h2]
theorem TabAt.mono{H H':Hp}{i:Nat}{name:String}{k:IntKind}{zs:List Int}(h:TabAt H i name k zs)(hs:Sub H H'):TabAt H' i name k zs:=by
 obtain⟨g,t,p,h1,h2⟩:=h
 exact⟨g,t,p,h1,hs _ _ h2⟩
theorem gU.mono{H H':Hp}(h:gU H)(hs:Sub H H'):gU H':=⟨h.1.mono hs,h.2.mono hs⟩
theorem gU.low{H:Hp}(h:gU H):gU (low H):=by
 obtain⟨⟨g,t,p,h1,h2⟩,g',t',p',h3,h4⟩:=h
 exact⟨⟨g,t,p,h1,h2⟩,g',t',p',h3,h4⟩
theorem gU.raw{H:Hp}(h:gU H):aaE (Go.fT.low H):=by
 obtain⟨⟨g,t,p,h1,h2⟩,g',t',p',h3,h4⟩:=h
 intro i ob hi
 unfold Go.fT.low at hi
 split at hi
 ·rename_i hlt
  have:i=0\/i=1:=by omega
  rcases this with rfl|rfl
  ·rw[h2] at hi;cases hi;exact⟨_,_,rfl⟩
  ·rw[h4] at hi;cases hi;exact⟨_,_,rfl⟩
 ·cases hi
theorem gU.ext{H:Hp}(h:gU H){news:List (Nat×Ob)}(hd:aM H news):gU (aC H news):=h.mono (nR hd)
def sH(n:Int):ByteArray:=⟨(Lib.itoa n).toArray⟩
theorem Gv(n:Int)(h0: -9223372036854775808<=n)(h1:n<=9223372036854775807):(sH n).size<=21:=Lib.itoa_length_le n h0 h1
theorem BX(n:Int)(h0: -9223372036854775808<=n)(h1:n<=9223372036854775807)(H:Hp)(hG:gU H):au Tryz.prog 146 [.v (.int .i64 n),.v (.int .i64 10)] H (bz H (.v (.string (sH n)))):=
 au.uJ ⟨_,Tryz.func146,by kernel_rfl,by kernel_rfl⟩ λρ w vals hh hr=>by
  obtain⟨hl,hr⟩:=hr
  match vals,hl,hr with
  |[a,b],hl,hr=>
   have e1:=aS (hr 0 _ _ U U)
   have e2:=aS (hr 1 _ _ U U)
   subst e1 e2
   refine(Tryz.internal_strconv_FormatInt_10 n h0 h1 w (hG.1.tab hh)).mono<|?_
   rintro e w' ⟨he,k,os,rfl⟩
   exact⟨he,rfl,rfl,rfl,by show w.heap.size<=(w.heap++os).size;simp,λk hk=>by show(w.heap++os)[k]? =_;rw[Array.getElem?_append_left hk]⟩
theorem DD(n:Int)(h0: -9223372036854775808<=n)(h1:n<=9223372036854775807)(H:Hp)(hG:gU H):au Tryz.prog 103 [.v (.int .i64 n),.v (.int .i64 10)] H (bz H (.v (.string (sH n)))):=by
 refine aF (n:=8) (H0:=H) (I:=[]) Tryz.func103 (by kernel_rfl) U (by rw[Tryz.ntmps103];rfl) .nil<|?_
 refine Q.rg<|Q.as U<|Q.nt<|Q.rg<|Q.mv U<|Q.mv U<|S.qu (Z.fe U U (λ_ hS=>BX n h0 h1 _ (hG.mono hS)))<|Q.as U<|Q.nt<|UW.ret<|S.bK (λ_=>ak U U)<|?_
 rfl
def DF(b:Bool):ByteArray:=⟨(Lib.formatBool b).toArray⟩
theorem BZ(b:Bool)(H:Hp):au Tryz.prog 102 [.v (.bool b)] H (bz H (.v (.string (DF b)))):=
 au.uJ ⟨_,Tryz.func102,by kernel_rfl,by kernel_rfl⟩ λρ w vals hh hr=>by
  obtain⟨hl,hr⟩:=hr
  match vals,hl,hr with
  |[a],hl,hr=>
   have e1:=aS (hr 0 _ _ U U)
   subst e1
   refine(Tryz.strconv_FormatBool b w).mono<|?_
   rintro e w' ⟨he,rfl⟩
   exact⟨he,Below.refl _ _⟩
def gu(l:List ByteArray)(sep:ByteArray):ByteArray:=⟨(Lib.join (l.map (·.data.toList)) sep.data.toList).toArray⟩
theorem Gw:∀l:List ByteArray,(l.map encS).flatten=l.map λs=> .v (.string s)
 |[]=>rfl
 |a::r=>by rw[List.map_cons,List.flatten_cons,Gw r];rfl
theorem Iz(l:List ByteArray)(sep:ByteArray)(hl:l.length<=140737488355328)(hb:(gu l sep).size<=140737488355328)(i len:Nat)(hle:len=l.length)(H:Hp)(hi:H i=some (.row 9 1 (l.map encS))):au Tryz.prog 147 [.own i 0 len 1,.v (.string sep)] H (bz H (.v (.string (gu l sep)))):=
 au.uJ ⟨_,Tryz.func147,by kernel_rfl,by kernel_rfl⟩ λρ w vals hh hr=>by
  subst hle
  obtain⟨hl0,hr⟩:=hr
  match vals,hl0,hr with
  |[a,b],hl0,hr=>
   have e1:=hr 0 _ _ U U
   have e2:=aS (hr 1 _ _ U U)
   subst e2
   obtain⟨v,hv,hz,inner,how,hrl,hc⟩:=hh.ob _ _ hi
   have hnone:∀a c,l.length=0->Calls Tryz.prog 147 #[.slice a 0 c,.string sep] w λe w'=>e=.returned (.string (gu l sep))/\Below w.heap.size w w':=λa c h0=>by
    have:l=[]:=List.eq_nil_of_length_eq_zero h0
    subst this
    exact(Tryz.strings_Join_none a c sep w).mono λe w' ⟨he,hw⟩=>⟨he,hw▸Below.refl _ _⟩
   generalize hll:l.length=ll at e1⊢
   cases e1 with
   |lW _ _ h=>exact hnone none 0 (by assumption)
   |nP _ _ _ g n cap off' cap' h h0 hm=>exact hnone _ _ (by omega)
   |own _ _ _ _ g n cap h hcap hmax=>
    rw[hv] at h;cases h
    rcases how.2 with ⟨h7,h8⟩|⟨g',cap',cur,h7,_,hg',h8,h9,h10,h11⟩
    ·cases h7
    cases h7
    subst hll
    rw[List.length_map] at h11
    rw[List.length_map] at h8
    rw[show([Value.slice (some ⟨g,0*1,none⟩) l.length (cap-0),Value.string sep]:List Value).toArray= #[.slice (some ⟨g,0,none⟩) l.length (cap-0),.string sep] from rfl]
    refine Tryz.strings_Join g 0 (cap-0) l sep w (λj x hj=>?_) (Array.getElem?_eq_some_iff.1 hg').1 hl (by omega) hb
    have hjl:=(List.getElem?_eq_some_iff.1 hj).1
    have hfl:=Gw l
    have h12:=hc.1
    rw[hfl,List.length_map] at h12
    have h13:=(hc.2 j (.v (.string x)) (inner[j]'(by omega)) (by rw[hfl,List.getElem?_map,hj];rfl) (List.getElem?_eq_getElem (by omega))).1
    have h14:cur.toList[j]? =some (.string x):=by
     have:(cur.toList.take (l.length*1))[j]? =some (.string x):=by rw[h11,List.getElem?_eq_getElem (by omega),aS h13]
     rw[List.getElem?_take,if_pos (by omega)] at this
     exact this
    simp only[World.cell?,hg',Nat.zero_add]
    simpa using h14
theorem DI(x:V)(hx:Fits x):∀(y:V) (H:Hp),au Tryz.prog 28 [.agg (aD x),.agg (aD y)] H (bz H (.v (.bool (gp x y)))):=by
 induction hx with
 |mk k n t ks vs h1 h2 h ih=>
 rintro⟨k',n',t',ks',vs'⟩ H
 have hvl:=aP vs
 have hvl':=aP vs'
 refine aF (n:=61) (H0:=H) (I:=[]) Tryz.func28 (by kernel_rfl) U (by rw[Tryz.ntmps28];rfl) .nil<|?_
 refine Q.rg<|S.dd<|D.box U U U λp2=>S.dd<|D.box U U U λp3=>Q.as U<|Q.nt<|S.sq<|Q.rg<|Q.fa bP U<|Q.lc 1 eQ U U U<|Q.fa bP U<|Q.lc 0 eQ U U U<|Q.bi U U U<|Q.mv U<|?_
 refine S.tO 11 (λuu=>?_) (λuu=>?_)
 refine Q.of<|Q.of<|Q.of<|Q.of<|Q.of<|Q.pk U U<|Q.mv U<|Q.of<|Q.of<|Q.of<|Q.of<|Q.of<|Q.pk U U<|Q.mv U<|Q.of<|Q.of<|Q.of<|Q.of<|Q.of<|Q.of<|Q.pk U U<|Q.mv U<|Q.of<|Q.of<|Q.of<|Q.of<|Q.of<|Q.of<|Q.of<|Q.pk U U<|Q.nt<|S.cT U U<|Q.rg<|Q.as U<|Q.nt<|UW.ret<|UQ.ax<|S.bK (λ_=>ak U U)<|?_
 focus (rw[gp];simp_all[r9];done)
 refine Q.on (Z.fa iA U)<|Q.on (Z.di 1 qF U U U)<|Q.on (Z.fa iA U)<|Q.on (Z.di 0 qF U U U)<|Q.on (Z.bi U U U)<|Q.pk U U<|Q.mv U<|?_
 refine S.tO 18 (λhc18=>?_) (λhc18=>?_)
 refine Q.of<|Q.of<|Q.of<|Q.of<|Q.of<|Q.pk U U<|Q.mv U<|Q.of<|Q.of<|Q.of<|Q.of<|Q.of<|Q.of<|Q.pk U U<|Q.mv U<|Q.of<|Q.of<|Q.of<|Q.of<|Q.of<|Q.of<|Q.of<|Q.pk U U<|Q.nt<|S.cT U U<|Q.rg<|Q.as U<|Q.nt<|UW.ret<|UQ.ax<|S.bK (λ_=>ak U U)<|?_
 focus (rw[gp];simp_all[r9];done)
 refine Q.on (Z.fa jZ U)<|Q.on (Z.di 1 ed U U U)<|Q.on (Z.fa jZ U)<|Q.on (Z.di 0 ed U U U)<|Q.on (Z.bs U U U)<|Q.pk U U<|Q.mv U<|?_
 refine S.tO 25 (λhc25=>?_) (λhc25=>?_)
 refine Q.of<|Q.of<|Q.of<|Q.of<|Q.of<|Q.of<|Q.pk U U<|Q.mv U<|Q.of<|Q.of<|Q.of<|Q.of<|Q.of<|Q.of<|Q.of<|Q.pk U U<|Q.nt<|S.cT U U<|Q.rg<|Q.as U<|Q.nt<|UW.ret<|UQ.ax<|S.bK (λ_=>ak U U)<|?_
 focus (rw[gp];simp_all[r9];done)
 refine Q.on (Z.fa dw U)<|Q.on (Z.di 1 dD U U U)<|Q.on (Z.fa dw U)<|Q.on (Z.di 0 dD U U U)<|Q.on (Z.call U U (λ_=>qC _ _ h1 _))<|Q.on (Z.not U)<|Q.pk U U<|Q.mv U<|?_
 refine S.tB 33 (λQ3=>?_) (λQ3=>?_)
 refine Q.of<|Q.of<|Q.of<|Q.of<|Q.of<|Q.of<|Q.of<|Q.pk U U<|Q.nt<|S.cT U U<|Q.rg<|Q.as U<|Q.nt<|UW.ret<|UQ.ax<|S.bK (λ_=>ak U U)<|?_
 focus (rw[gp];simp_all[r9];done)
 refine Q.on (Z.fa bO U)<|Q.on (Z.di 1 dF U U U)<|Q.on (Z.fG bM U)<|Q.on (Z.fa bO U)<|Q.on (Z.di 0 dF U U U)<|Q.on (Z.fG bM U)<|Q.on (Z.bi U U U)<|Q.pk U U<|Q.nt<|?_
 refine S.cO U (λhc41=>?_) (λhc41=>?_)
 refine Q.rg<|Q.as U<|Q.nt<|UW.ret<|UQ.ax<|S.bK (λ_=>ak U U)<|?_
 focus (rw[gp,oq,uQ (f:=gp) (l:=vs) (r:=vs') (by omega)];simp;done)
 refine UW.skip<|UQ.then<|S.sq<|Q.rg<|Q.as U<|Q.nt<|UW.block<|?_
 have hlen:vs.length=vs'.length:=by omega
 refine S.loop (λj:Nat=>[(5,.v (.int .i64 (j:Int))),(2,.ptr p2 0),(3,.ptr p3 0)]) (λ_=>[(p3,.box 26 (aD (.mk k' n' t' ks' vs'))),(p2,.box 26 (aD (.mk k n t ks vs)))]) (λj=>j<=vs.length/\∀(i:Nat) (h:i<vs.length) (h':i<vs'.length),i<j->gp vs[i] vs'[i]=true) (λj=>vs.length-j) 0 ⟨Nat.zero_le _,λi _ _ h=>absurd h (by omega)⟩ ⟨rfl,rfl,rfl,trivial⟩ (.refl _)<|?_
 rintro j ⟨hj,hjj⟩
 by_cases hlt:j<vs.length
 ·have hgl:=fK vs j hlt
  have hgr:=fK vs' j (by omega)
  have hrec:=λH=>ih _ (List.getElem_mem hlt) (vs'[j]'(by omega)) H
  focus
   refine S.sq<|Q.rg<|Q.mv U<|Q.fa bO U<|Q.lc 1 dF U U U<|S.qu (Z.fG bM U)<|Q.bi U U U<|Q.nt<|S.cT U (decide_eq_true (by omega))<|UW.skip<|UQ.then<|S.sq<|UW.block<|S.sq<|?_
   refine' UW.bG (by kernel_rfl) [0,1,0,7,15,0,32,0,224,480,1023,2047] [some 49,some 50,some 51,some 52,some 53,some 54,some 55,some 56,some 57,some 58,some 59,some 60] [some (49,_),some (50,_),some (51,_),some (52,_),some (53,_),some (54,_),some (55,_),some (56,_),some (57,_),some (58,_),some (59,_),some (60,_)] [] [1,4,6,9] U (by decide) (by decide) (M.free (by decide) U U ?iX (M.held (by decide) U U ?iY (M.free (by decide) U U ?iZ (M.free (by decide) U U ?ja (M.held (by decide) U U ?jb (M.free (by decide) U U ?jc (M.held (by decide) U U ?jd (M.free (by decide) U U ?kH (M.free (by decide) U U ?o6 (M.held (by decide) U U ?sI (M.free (by decide) U U ?nS (M.free (by decide) U U ?nT M.nil)))))))))))) ?sj
   case iX=>(intro _;exact Z.fa bO rfl)
   case iY=>exact Z.di 1 dF rfl rfl rfl
   case iZ=>(intro _;exact Z.mv rfl)
   case ja=>(intro _;exact Z.ia bM rfl rfl (by omega) (by assumption) (by exact Y _))
   case jb=>exact Z.Gm av rfl (Y _)
   case jc=>(intro _;exact Z.fa bO rfl)
   case jd=>exact Z.di 0 dF rfl rfl rfl
   case kH=>(intro _;exact Z.mv rfl)
   case o6=>(intro _;exact Z.ia bM rfl rfl (by omega) (by assumption) (by exact Y _))
   case sI=>exact Z.Gm av rfl (Y _)
   case nS=>(intro _;exact Z.call rfl rfl hrec)
   case nT=>(intro _;exact Z.not rfl)
   refine CH.nil<|?_
   simp only[app,bV]
   refine UQ.then<|?_
   refine S.cB U (λaaF=>?_) (λaaF=>?_)
   refine Q.rg<|Q.as U<|Q.nt<|UW.ret<|UQ.aH<|UQ.ax<|UQ.ax<|UQ.aH<|UQ.ax<|S.bK (λ_=>ak U U)<|?_
   rotate_left
   refine UW.skip<|UQ.aB<|UQ.then<|S.rg<|Q.mv U<|S.qu (Z.add (r:=((j+1:Nat):Int)) U U (IntWalk.i64_in _ (by omega)))<|Q.as U<|US.nil<|?_
   refine S.back _ ⟨rfl,rfl,rfl,trivial⟩ (.refl _) ?_ (by omega)
   rotate_left
  ·rw[gp,oq,yZ j hlt (by omega) (by simpa using aaF)];simp
  ·refine⟨by omega,λi h3 h4 h5=>?_⟩
   by_cases hij:i=j
   ·subst hij;simpa using aaF
   ·exact hjj i h3 h4 (by omega)
 ·refine S.sq<|Q.rg<|Q.mv U<|Q.fa bO U<|Q.lc 1 dF U U U<|S.qu (Z.fG bM U)<|Q.bi U U U<|Q.nt<|S.cF U (decide_eq_false (by omega))<|UW.exit<|UQ.pass<|UQ.pass<|UQ.here<|UQ.then<|Q.rg<|Q.as U<|Q.nt<|UW.ret<|S.bK (λ_=>ak U U)<|?_
  have e1:r9 t t'=true:=by unfold r9;simpa using hc25
  rw[gp,oq,l9 hlen (λi h1 h2=>hjj i h1 h2 (by omega)),uu,hc18,e1,show kX r9 ks ks'=true from by simpa using Q3];simp
theorem Q4(l:List Int)(h:∀c∈l,0<=c):Io (l++[0])=l.foldl (λm c=>if c>m then c else m) 0:=by
 have e1:0<=l.foldl (λm c=>if c>m then c else m) 0:=oZ.1
 have e2:l.foldl (λm c=>if c>m then c else m) 0<=Io (l++[0]):=rX (Co (by simp)) (λc hc=>Co (by simp[hc]))
 have e3:Io (l++[0])<=l.foldl (λm c=>if c>m then c else m) 0:=by
  cases l with
  |nil=>simp[Io]
  |cons a r=>
   have h1:=oZ (r:=a::r) (b:=0)
   exact rX (h1.2 a (by simp)) (λc hc=>by
    rcases List.mem_append.1 hc with h2|h2
    ·exact h1.2 c (by simp[h2])
    ·simp at h2;subst h2;exact e1)
 omega
theorem jk(s:ByteArray)(hs:s.size<=4000000)(H:Hp):au Tryz.prog 158 [.v (.string s)] H (bz H (.v (.int .i64 (PX s)))):=by rw[aaB];exact Le s hs H
def nC(ks:List ByteArray):Bool:=(List.range ks.length).all (qj ks)
theorem NV(ks:List ByteArray)(hl:ks.length<=1000000)(hks:∀s∈ks,s.size<=4000000)(H:Hp):au Tryz.prog 159 [strs ks] H (bz H (.v (.bool (nC ks)))):=by
 have wI:(ks.map encS).length=ks.length:=List.length_map ..
 refine aF (n:=33) (H0:=H) (I:=[]) Tryz.func159 (by kernel_rfl) U (by rw[Tryz.ntmps159];rfl) .nil<|?_
 refine Q.rg<|Q.as U<|Q.nt<|S.sq<|Q.rg<|Q.as U<|Q.nt<|UW.block<|S.loop (λj:Nat=>[(3,.v (.int .i64 (j:Int))),(0,strs ks)]) (λ_=>[]) (λj=>j<=ks.length/\∀i,i<j->qj ks i=true) (λj=>ks.length-j) 0 ⟨Nat.zero_le _,λi h=>absurd h (by omega)⟩ ⟨rfl,rfl,trivial⟩ (.refl _)<|?_
 rintro j ⟨hj,hjj⟩
 by_cases hlt:j<ks.length
 ·have hgl:=eD ks j hlt
  have hge:ks.getD j ⟨#[]⟩=ks[j]:=getD_at hlt
  have bad:qj ks j=false->nC ks=false:=λhb=>by
   unfold nC
   rw[List.all_eq_false]
   exact⟨j,List.mem_range.2 hlt,by simp[hb]⟩
  have good:qj ks j=true->∀i,i<j+1->qj ks i=true:=λhb i hi=>by
   by_cases hij:i=j
   ·subst hij;exact hb
   ·exact hjj i (by omega)
  by_cases hC:0<=PX ks[j]
  ·have hb:=bad (by unfold qj;rw[hge,decide_eq_false (by omega)];rfl)
   refine S.sq<|Q.rg<|Q.mv U<|Q.mv U<|S.qu (Z.fG aY U)<|Q.bi U U U<|Q.nt<|S.cT U (decide_eq_true (by omega))<|UW.skip<|UQ.then<|S.sq<|UW.block<|S.sq<|?_
   refine' UW.bG (by kernel_rfl) [0,0,3,7,15,31,63,127,255,511,1023,1023,3071,8191,16383,1023,1023,99327,230399,524287,1048575,2097151,4194303] [some 10,some 11,some 12,some 13,some 14,some 15,some 16,some 17,some 18,some 19,some 20,some 21,some 22,some 23,some 24,some 25,some 26,some 27,some 28,some 29,some 30,some 31,some 32] [some (10,_),some (11,_),some (12,_),some (13,_),some (14,_),some (15,_),some (16,_),some (17,_),some (18,_),some (19,_),some (20,_),some (21,_),some (22,_),some (23,_),some (24,_),some (25,_),some (26,_),some (27,_),some (28,_),some (29,_),some (30,_),some (31,_),some (32,_)] [] [3,14,18] U (by decide) (by decide) (M.free (by decide) U U ?iX (M.free (by decide) U U ?iY (M.free (by decide) U U ?iZ (M.held (by decide) U U ?ja (M.free (by decide) U U ?jb (M.free (by decide) U U ?jc (M.free (by decide) U U ?jd (M.free (by decide) U U ?kH (M.free (by decide) U U ?o6 (M.free (by decide) U U ?sI (M.free (by decide) U U ?nS (M.free (by decide) U U ?nT (M.free (by decide) U U ?y7 (M.free (by decide) U U ?y8 (M.held (by decide) U U ?y9 (M.free (by decide) U U ?IA (M.free (by decide) U U ?IB (M.free (by decide) U U ?IC (M.held (by decide) U U ?IE (M.free (by decide) U U ?IG (M.free (by decide) U U ?II (M.free (by decide) U U ?IJ (M.free (by decide) U U ?IK M.nil))))))))))))))))))))))) ?sj
   case iX=>(intro _;exact Z.mv rfl)
   case iY=>(intro _;exact Z.mv rfl)
   case iZ=>(intro _;exact Z.ia aY rfl rfl (by omega) (by assumption) (by rfl))
   case ja=>exact Z.fE ed rfl
   case jb=>(intro _;exact Z.call rfl rfl (λ_=>jk _ (hks _ (List.getElem_mem hlt)) _))
   case jc=>(intro _;exact Z.tT (Z.bi rfl rfl rfl) (decide_eq_true (by omega)))
   case jd=>(intro _;exact Z.mv rfl)
   case kH=>(intro _;exact Z.of)
   case o6=>(intro _;exact Z.of)
   case sI=>(intro _;exact Z.of)
   case nS=>(intro _;exact Z.Sy)
   case nT=>(intro _;exact Z.Sy)
   case y7=>(intro _;exact Z.Sy)
   case y8=>(intro _;exact Z.Sy)
   case y9=>exact Z.Sy
   case IA=>(intro _;exact Z.Sy)
   case IB=>(intro _;exact Z.Sy)
   case IC=>(intro _;exact Z.Sy)
   case IE=>exact Z.Sy
   case IG=>(intro _;exact Z.Sy)
   case II=>(intro _;exact Z.Sy)
   case IJ=>(intro _;exact Z.of)
   case IK=>(intro _;exact Z.pick rfl rfl)
   refine CH.nil<|?_
   simp only[app,bV]
   refine UQ.then<|S.cT U U<|Q.rg<|Q.as U<|Q.nt<|UW.ret<|UQ.aH<|UQ.ax<|UQ.ax<|UQ.aH<|UQ.ax<|S.bK (λ_=>ak U U)<|?_
   focus (rw[hb];done)
  ·by_cases h0:0<j
   ·have hgp:=Ld ks j hlt h0
    have hpm:ks.getD (j-1) ⟨#[]⟩∈ks:=eY (by omega)
    have hpb:=hks _ hpm
    cases hL:dP (ks.getD (j-1) ⟨#[]⟩) ks[j] with
    |true=>
     have hL2:(!(dP (ks.getD (j-1) ⟨#[]⟩) ks[j]))=false:=by rw[hL];rfl
     have hok:qj ks j=true:=by
      unfold dP at hL
      unfold qj;rw[hge,hL,decide_eq_true (by omega)];simp
     refine S.sq<|Q.rg<|Q.mv U<|Q.mv U<|S.qu (Z.fG aY U)<|Q.bi U U U<|Q.nt<|S.cT U (decide_eq_true (by omega))<|UW.skip<|UQ.then<|S.sq<|UW.block<|S.sq<|?_
     refine' UW.bG (by kernel_rfl) [0,0,3,7,15,31,63,127,255,511,1023,1023,3071,8191,16383,1023,1023,99327,230399,524287,1048575,2097151,4194303] [some 10,some 11,some 12,some 13,some 14,some 15,some 16,some 17,some 18,some 19,some 20,some 21,some 22,some 23,some 24,some 25,some 26,some 27,some 28,some 29,some 30,some 31,some 32] [some (10,_),some (11,_),some (12,_),some (13,_),some (14,_),some (15,_),some (16,_),some (17,_),some (18,_),some (19,_),some (20,_),some (21,_),some (22,_),some (23,_),some (24,_),some (25,_),some (26,_),some (27,_),some (28,_),some (29,_),some (30,_),some (31,_),some (32,_)] [] [3,14,18] U (by decide) (by decide) (M.free (by decide) U U ?je (M.free (by decide) U U ?jf (M.free (by decide) U U ?jg (M.held (by decide) U U ?jh (M.free (by decide) U U ?ji (M.free (by decide) U U ?jK (M.free (by decide) U U ?mg (M.free (by decide) U U ?xP (M.free (by decide) U U ?xQ (M.free (by decide) U U ?xR (M.free (by decide) U U ?ze (M.free (by decide) U U ?IL (M.free (by decide) U U ?IM (M.free (by decide) U U ?IP (M.held (by decide) U U ?IQ (M.free (by decide) U U ?IU (M.free (by decide) U U ?IV (M.free (by decide) U U ?IW (M.held (by decide) U U ?IX (M.free (by decide) U U ?IY (M.free (by decide) U U ?VQ (M.free (by decide) U U ?VR (M.free (by decide) U U ?VS M.nil))))))))))))))))))))))) ?su
     case je=>(intro _;exact Z.mv rfl)
     case jf=>(intro _;exact Z.mv rfl)
     case jg=>(intro _;exact Z.ia aY rfl rfl (by omega) (by assumption) (by rfl))
     case jh=>exact Z.fE ed rfl
     case ji=>(intro _;exact Z.call rfl rfl (λ_=>jk _ (hks _ (List.getElem_mem hlt)) _))
     case jK=>(intro _;exact Z.tF (Z.bi rfl rfl rfl) (decide_eq_false (by omega)))
     case mg=>(intro _;exact Z.mv rfl)
     case xP=>(intro _;exact Z.on (Z.mv rfl))
     case xQ=>(intro _;exact Z.on (Z.tT (Z.bi rfl rfl rfl) (decide_eq_true (by omega))))
     case xR=>(intro _;exact Z.on (Z.mv rfl))
     case ze=>(intro _;exact Z.on (Z.mv rfl))
     case IL=>(intro _;exact Z.on (Z.mv rfl))
     case IM=>(intro _;exact Z.on (Z.sub rfl rfl (IntWalk.i64_in _ (by omega))))
     case IP=>(intro _;exact Z.on (Z.ia aY rfl rfl (by omega) (by assumption) (by rfl)))
     case IQ=>exact Z.on (Z.fE ed rfl)
     case IU=>(intro _;exact Z.on (Z.mv rfl))
     case IV=>(intro _;exact Z.on (Z.mv rfl))
     case IW=>(intro _;exact Z.on (Z.ia aY rfl rfl (by omega) (by assumption) (by rfl)))
     case IX=>exact Z.on (Z.fE ed rfl)
     case IY=>(intro _;exact Z.on (Z.tT (Z.call rfl rfl (λ_=>si _ _ hpb _)) (by assumption)))
     case VQ=>(intro _;exact Z.on (Z.not rfl))
     case VR=>(intro _;exact Z.on (Z.pick rfl rfl))
     case VS=>(intro _;exact Z.pick rfl rfl)
     refine CH.nil<|?_
     simp only[app,bV]
     refine UQ.then<|S.cF U U<|UW.skip<|UQ.aB<|UQ.then<|S.rg<|Q.mv U<|S.qu (Z.add (r:=((j+1:Nat):Int)) U U (IntWalk.i64_in _ (by omega)))<|Q.as U<|US.nil<|?_
     refine S.back _ ⟨rfl,rfl,trivial⟩ (.refl _) ?_ (by omega)
     focus (exact⟨by omega,good hok⟩;done)
    |false=>
     have hL2:(!(dP (ks.getD (j-1) ⟨#[]⟩) ks[j]))=true:=by rw[hL];rfl
     have hb:=bad (by
      unfold dP at hL
      unfold qj;rw[hge,hL,decide_eq_false (by omega:¬j=0)];simp)
     refine S.sq<|Q.rg<|Q.mv U<|Q.mv U<|S.qu (Z.fG aY U)<|Q.bi U U U<|Q.nt<|S.cT U (decide_eq_true (by omega))<|UW.skip<|UQ.then<|S.sq<|UW.block<|S.sq<|?_
     refine' UW.bG (by kernel_rfl) [0,0,3,7,15,31,63,127,255,511,1023,1023,3071,8191,16383,1023,1023,99327,230399,524287,1048575,2097151,4194303] [some 10,some 11,some 12,some 13,some 14,some 15,some 16,some 17,some 18,some 19,some 20,some 21,some 22,some 23,some 24,some 25,some 26,some 27,some 28,some 29,some 30,some 31,some 32] [some (10,_),some (11,_),some (12,_),some (13,_),some (14,_),some (15,_),some (16,_),some (17,_),some (18,_),some (19,_),some (20,_),some (21,_),some (22,_),some (23,_),some (24,_),some (25,_),some (26,_),some (27,_),some (28,_),some (29,_),some (30,_),some (31,_),some (32,_)] [] [3,14,18] U (by decide) (by decide) (M.free (by decide) U U ?sJ (M.free (by decide) U U ?sK (M.free (by decide) U U ?sM (M.held (by decide) U U ?sN (M.free (by decide) U U ?sO (M.free (by decide) U U ?xS (M.free (by decide) U U ?xU (M.free (by decide) U U ?xV (M.free (by decide) U U ?xW (M.free (by decide) U U ?xX (M.free (by decide) U U ?sP (M.free (by decide) U U ?IZ (M.free (by decide) U U ?I1 (M.free (by decide) U U ?I4 (M.held (by decide) U U ?I5 (M.free (by decide) U U ?I6 (M.free (by decide) U U ?I7 (M.free (by decide) U U ?I8 (M.held (by decide) U U ?I9 (M.free (by decide) U U ?Ja (M.free (by decide) U U ?Jb (M.free (by decide) U U ?Jc (M.free (by decide) U U ?Jd M.nil))))))))))))))))))))))) ?Je
     case sJ=>(intro _;exact Z.mv rfl)
     case sK=>(intro _;exact Z.mv rfl)
     case sM=>(intro _;exact Z.ia aY rfl rfl (by omega) (by assumption) (by rfl))
     case sN=>exact Z.fE ed rfl
     case sO=>(intro _;exact Z.call rfl rfl (λ_=>jk _ (hks _ (List.getElem_mem hlt)) _))
     case xS=>(intro _;exact Z.tF (Z.bi rfl rfl rfl) (decide_eq_false (by omega)))
     case xU=>(intro _;exact Z.mv rfl)
     case xV=>(intro _;exact Z.on (Z.mv rfl))
     case xW=>(intro _;exact Z.on (Z.tT (Z.bi rfl rfl rfl) (decide_eq_true (by omega))))
     case xX=>(intro _;exact Z.on (Z.mv rfl))
     case sP=>(intro _;exact Z.on (Z.mv rfl))
     case IZ=>(intro _;exact Z.on (Z.mv rfl))
     case I1=>(intro _;exact Z.on (Z.sub rfl rfl (IntWalk.i64_in _ (by omega))))
     case I4=>(intro _;exact Z.on (Z.ia aY rfl rfl (by omega) (by assumption) (by rfl)))
     case I5=>exact Z.on (Z.fE ed rfl)
     case I6=>(intro _;exact Z.on (Z.mv rfl))
     case I7=>(intro _;exact Z.on (Z.mv rfl))
     case I8=>(intro _;exact Z.on (Z.ia aY rfl rfl (by omega) (by assumption) (by rfl)))
     case I9=>exact Z.on (Z.fE ed rfl)
     case Ja=>(intro _;exact Z.on (Z.tF (Z.call rfl rfl (λ_=>si _ _ hpb _)) (by assumption)))
     case Jb=>(intro _;exact Z.on (Z.not rfl))
     case Jc=>(intro _;exact Z.on (Z.pick rfl rfl))
     case Jd=>(intro _;exact Z.pick rfl rfl)
     refine CH.nil<|?_
     simp only[app,bV]
     refine UQ.then<|S.cT U U<|Q.rg<|Q.as U<|Q.nt<|UW.ret<|UQ.aH<|UQ.ax<|UQ.ax<|UQ.aH<|UQ.ax<|S.bK (λ_=>ak U U)<|?_
     focus (rw[hb];done)
   ·have hok:qj ks j=true:=by unfold qj;rw[hge,decide_eq_true (by omega:j=0),decide_eq_true (by omega)];rfl
    refine S.sq<|Q.rg<|Q.mv U<|Q.mv U<|S.qu (Z.fG aY U)<|Q.bi U U U<|Q.nt<|S.cT U (decide_eq_true (by omega))<|UW.skip<|UQ.then<|S.sq<|UW.block<|S.sq<|?_
    refine' UW.bG (by kernel_rfl) [0,0,3,7,15,31,63,127,255,511,1023,1023,3071,8191,16383,1023,1023,99327,230399,524287,1048575,2097151,4194303] [some 10,some 11,some 12,some 13,some 14,some 15,some 16,some 17,some 18,some 19,some 20,some 21,some 22,some 23,some 24,some 25,some 26,some 27,some 28,some 29,some 30,some 31,some 32] [some (10,_),some (11,_),some (12,_),some (13,_),some (14,_),some (15,_),some (16,_),some (17,_),some (18,_),some (19,_),some (20,_),some (21,_),some (22,_),some (23,_),some (24,_),some (25,_),some (26,_),some (27,_),some (28,_),some (29,_),some (30,_),some (31,_),some (32,_)] [] [3,14,18] U (by decide) (by decide) (M.free (by decide) U U ?lZ (M.free (by decide) U U ?l5 (M.free (by decide) U U ?l6 (M.held (by decide) U U ?l7 (M.free (by decide) U U ?o7 (M.free (by decide) U U ?oQ (M.free (by decide) U U ?oU (M.free (by decide) U U ?oV (M.free (by decide) U U ?xy (M.free (by decide) U U ?xz (M.free (by decide) U U ?zf (M.free (by decide) U U ?Jf (M.free (by decide) U U ?Jg (M.free (by decide) U U ?Jh (M.held (by decide) U U ?Ji (M.free (by decide) U U ?Jj (M.free (by decide) U U ?Jk (M.free (by decide) U U ?Jl (M.held (by decide) U U ?Jm (M.free (by decide) U U ?Jn (M.free (by decide) U U ?VT (M.free (by decide) U U ?VU (M.free (by decide) U U ?VV M.nil))))))))))))))))))))))) ?Am
    case lZ=>(intro _;exact Z.mv rfl)
    case l5=>(intro _;exact Z.mv rfl)
    case l6=>(intro _;exact Z.ia aY rfl rfl (by omega) (by assumption) (by rfl))
    case l7=>exact Z.fE ed rfl
    case o7=>(intro _;exact Z.call rfl rfl (λ_=>jk _ (hks _ (List.getElem_mem hlt)) _))
    case oQ=>(intro _;exact Z.tF (Z.bi rfl rfl rfl) (decide_eq_false (by omega)))
    case oU=>(intro _;exact Z.mv rfl)
    case oV=>(intro _;exact Z.on (Z.mv rfl))
    case xy=>(intro _;exact Z.on (Z.tF (Z.bi rfl rfl rfl) (decide_eq_false (by omega))))
    case xz=>(intro _;exact Z.on (Z.mv rfl))
    case zf=>(intro _;exact Z.of)
    case Jf=>(intro _;exact Z.of)
    case Jg=>(intro _;exact Z.of)
    case Jh=>(intro _;exact Z.of)
    case Ji=>exact Z.of
    case Jj=>(intro _;exact Z.of)
    case Jk=>(intro _;exact Z.of)
    case Jl=>(intro _;exact Z.of)
    case Jm=>exact Z.of
    case Jn=>(intro _;exact Z.of)
    case VT=>(intro _;exact Z.of)
    case VU=>(intro _;exact Z.on (Z.pick rfl rfl))
    case VV=>(intro _;exact Z.pick rfl rfl)
    refine CH.nil<|?_
    simp only[app,bV]
    refine UQ.then<|S.cF U U<|UW.skip<|UQ.aB<|UQ.then<|S.rg<|Q.mv U<|S.qu (Z.add (r:=((j+1:Nat):Int)) U U (IntWalk.i64_in _ (by omega)))<|Q.as U<|US.nil<|?_
    refine S.back _ ⟨rfl,rfl,trivial⟩ (.refl _) ?_ (by omega)
    focus (exact⟨by omega,good hok⟩;done)
 ·refine S.sq<|Q.rg<|Q.mv U<|Q.mv U<|S.qu (Z.fG aY U)<|Q.bi U U U<|Q.nt<|S.cF U (decide_eq_false (by omega))<|UW.exit<|UQ.pass<|UQ.pass<|UQ.here<|UQ.then<|Q.rg<|Q.as U<|Q.nt<|UW.ret<|S.bK (λ_=>ak U U)<|?_
  have:nC ks=true:=by
   unfold nC
   rw[List.all_eq_true]
   exactλi hi=>hjj i (by have:=List.mem_range.1 hi;omega)
  rw[this]
end Go.Proofs.YtonpfomjoiaacaaGreatDoor
end
