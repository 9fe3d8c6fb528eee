/- A part of the proof. -/
import Derived.Test.YtbooeongacgnbaaGreatDoorMw13
import Derived.Test.YtbooeongacgnbaaGreatDoorMw14
import Derived.Test.YtbooeongacgnbaaGreatDoorMw15
import Derived.Lib.ItoaLen
import Derived.Shelf.Unicode.CaseLaid
set_option maxRecDepth 100000
set_option maxHeartbeats 4000000
set_option linter.unusedSectionVars false
set_option linter.unusedVariables false
set_option linter.unusedSimpArgs false
section
namespace Go.Proofs.YtbooeongacgnbaaGreatDoor
open Go Go.gW Go.RowKit
structure Facts(ga gb:Addr)(w:World):Prop where
 tab:Lib.TabIs Tryz.prog w "internal/strconv.uint64pow10" .u64 Lib.pow10Tab
 ZL:Go.Lib.CaseVar 8 Go.Lib.caseA w
 yL:Lib.Utf8Tabs 5 6 w
 Yf:w.var? Tryz.prog "strconv.ErrSyntax" =some #[.iface 204 (.pointer (some ga))]
 ran:w.var? Tryz.prog "strconv.ErrRange" =some #[.iface 204 (.pointer (some gb))]
 ne:gb≠ga
 ca:∃cs t,w.heap[ga.block]? =some (.cells cs t (0,0))
 cb:∃cs t,w.heap[gb.block]? =some (.cells cs t (0,0))
def bO(ga gb:Addr)(H:Hp):Prop:=∃(g:Nat->Nat) (x:Nat->Obj),(∀i,i<9->H i=some (.raw (g i) (x i)))/\∀w:World,(∀i,i<9->w.heap[g i]? =some (x i))->Facts ga gb w
theorem bO.facts{ga gb:Addr}{H:Hp}(h:bO ga gb H){ρ:fK}{w:World}(hh:dG ρ H w):Facts ga gb w:=by
 obtain⟨g,x,h1,h2⟩:=h
 exact h2 w λi hi=>hh.raw (h1 i hi)
theorem bO.mono{ga gb:Addr}{H H':Hp}(h:bO ga gb H)(hs:Sub H H'):bO ga gb H':=by
 obtain⟨g,x,h1,h2⟩:=h
 exact⟨g,x,λi hi=>hs _ _ (h1 i hi),h2⟩
def kI(n:Int):ByteArray:=⟨(Lib.itoa n).toArray⟩
theorem CE(n:Int)(h0: -9223372036854775808<=n)(h1:n<=9223372036854775807):(kI n).size<=21:=Lib.itoa_length_le n h0 h1
theorem za(n:Int)(h0: -9223372036854775808<=n)(h1:n<=9223372036854775807)(H:Hp){ga gb:Addr}(hG:bO ga gb H):F Tryz.prog 50 [.v (.int .i64 n),.v (.int .i64 10)] H (bn H (.v (.string (kI n)))):=
 F.iU ⟨_,Tryz.func50,by kernel_rfl,by kernel_rfl⟩ λρ w vals hh hr=>by
  obtain⟨hl,hr⟩:=hr
  match vals,hl,hr with
  |[a,b],hl,hr=>
   have e1:=aP (hr 0 _ _ U U)
   have e2:=aP (hr 1 _ _ U U)
   subst e1 e2
   refine(Tryz.internal_strconv_FormatInt_10 n h0 h1 w (hG.facts hh).tab).mono<|?_
   rintro e w' ⟨he,k,os,rfl⟩
   exact⟨he,rfl,rfl,rfl,by show w.heap.size<=(w.heap++os).size;simp,λk hk=>by show(w.heap++os)[k]? =_;rw[Array.getElem?_append_left hk]⟩
theorem Av(n:Int)(h0: -9223372036854775808<=n)(h1:n<=9223372036854775807)(H:Hp){ga gb:Addr}(hG:bO ga gb H):F Tryz.prog 31 [.v (.int .i64 n),.v (.int .i64 10)] H (bn H (.v (.string (kI n)))):=by
 refine aA (n:=8) (H0:=H) (M:=[]) Tryz.func31 (by kernel_rfl) U (by rw[Tryz.ntmps31];rfl) .nil<|?_
 refine Q.rg<|Q.as U<|Q.nt<|Q.rg<|Q.mv U<|Q.mv U<|S.qu (Z.bU U U (λ_ hS=>za n h0 h1 _ (hG.mono hS)))<|Q.as U<|Q.nt<|UW.ret<|S.bG (λ_=>au U U)<|?_
 rfl
def Aw(b:Bool):ByteArray:=⟨(Lib.formatBool b).toArray⟩
theorem zb(b:Bool)(H:Hp):F Tryz.prog 30 [.v (.bool b)] H (bn H (.v (.string (Aw b)))):=
 F.iU ⟨_,Tryz.func30,by kernel_rfl,by kernel_rfl⟩ λρ w vals hh hr=>by
  obtain⟨hl,hr⟩:=hr
  match vals,hl,hr with
  |[a],hl,hr=>
   have e1:=aP (hr 0 _ _ U U)
   subst e1
   refine(Tryz.strconv_FormatBool b w).mono<|?_
   rintro e w' ⟨he,rfl⟩
   exact⟨he,Below.refl _ _⟩
def fP(l:List ByteArray)(sep:ByteArray):ByteArray:=⟨(Lib.join (l.map (·.data.toList)) sep.data.toList).toArray⟩
theorem CF:∀l:List ByteArray,(l.map encS).flatten=l.map λs=> .v (.string s)
 |[]=>rfl
 |a::r=>by rw[List.map_cons,List.flatten_cons,CF r];rfl
theorem Ev(l:List ByteArray)(sep:ByteArray)(hl:l.length<=140737488355328)(hb:(fP l sep).size<=140737488355328)(i len:Nat)(hle:len=l.length)(H:Hp)(hi:H i=some (.row 9 1 (l.map encS))):F Tryz.prog 51 [.own i 0 len 1,.v (.string sep)] H (bn H (.v (.string (fP l sep)))):=
 F.iU ⟨_,Tryz.func51,by kernel_rfl,by kernel_rfl⟩ λρ w vals hh hr=>by
  subst hle
  obtain⟨hl0,hr⟩:=hr
  match vals,hl0,hr with
  |[a,b],hl0,hr=>
   have e1:=hr 0 _ _ U U
   have e2:=aP (hr 1 _ _ U U)
   subst e2
   obtain⟨v,hv,hz,inner,how,hrl,hc⟩:=hh.ob _ _ hi
   have hnone:∀a c,l.length=0->Calls Tryz.prog 51 #[.slice a 0 c,.string sep] w λe w'=>e=.returned (.string (fP l sep))/\Below w.heap.size w w':=λa c h0=>by
    have:l=[]:=List.eq_nil_of_length_eq_zero h0
    subst this
    exact(Tryz.strings_Join_none a c sep w).mono λe w' ⟨he,hw⟩=>⟨he,hw▸Below.refl _ _⟩
   generalize hll:l.length=ll at e1⊢
   cases e1 with
   |lQ _ _ h=>exact hnone none 0 (by assumption)
   |ny _ _ _ g n cap off' cap' h h0 hm=>exact hnone _ _ (by omega)
   |own _ _ _ _ g n cap h hcap hmax=>
    rw[hv] at h;cases h
    rcases how.2 with ⟨h7,h8⟩|⟨g',cap',cur,h7,_,hg',h8,h9,h10,h11⟩
    ·cases h7
    cases h7
    subst hll
    rw[List.length_map] at h11
    rw[List.length_map] at h8
    rw[show([Value.slice (some ⟨g,0*1,none⟩) l.length (cap-0),Value.string sep]:List Value).toArray= #[.slice (some ⟨g,0,none⟩) l.length (cap-0),.string sep] from rfl]
    refine Tryz.strings_Join g 0 (cap-0) l sep w (λj x hj=>?_) (Array.getElem?_eq_some_iff.1 hg').1 hl (by omega) hb
    have hjl:=(List.getElem?_eq_some_iff.1 hj).1
    have hfl:=CF l
    have h12:=hc.1
    rw[hfl,List.length_map] at h12
    have Xc:=(hc.2 j (.v (.string x)) (inner[j]'(by omega)) (by rw[hfl,List.getElem?_map,hj];rfl) (List.getElem?_eq_getElem (by omega))).1
    have Me:cur.toList[j]? =some (.string x):=by
     have:(cur.toList.take (l.length*1))[j]? =some (.string x):=by rw[h11,List.getElem?_eq_getElem (by omega),aP Xc]
     rw[List.getElem?_take,if_pos (by omega)] at this
     exact this
    simp only[World.cell?,hg',Nat.zero_add]
    simpa using Me
theorem JB(x:V)(hx:Fits x):∀(y:V) (H:Hp),F Tryz.prog 21 [.agg (aN x),.agg (aN y)] H (bn H (.v (.bool (nP x y)))):=by
 induction hx with
 |mk k n t ks vs h1 h2 h ih=>
 rintro⟨k',n',t',ks',vs'⟩ H
 have hvl:=aS vs
 have hvl':=aS vs'
 refine aA (n:=61) (H0:=H) (M:=[]) Tryz.func21 (by kernel_rfl) U (by rw[Tryz.ntmps21];rfl) .nil<|?_
 refine Q.rg<|S.dd<|D.box U U U λp2=>S.dd<|D.box U U U λp3=>Q.as U<|Q.nt<|S.sq<|Q.rg<|Q.fa eO U<|Q.lc 1 bC U U U<|Q.fa eO U<|Q.lc 0 bC U U U<|Q.bi U U U<|Q.mv U<|?_
 refine S.tO 11 (λiQ=>?_) (λiQ=>?_)
 refine Q.of<|Q.of<|Q.of<|Q.of<|Q.of<|Q.pk U U<|Q.mv U<|Q.of<|Q.of<|Q.of<|Q.of<|Q.of<|Q.pk U U<|Q.mv U<|Q.of<|Q.of<|Q.of<|Q.of<|Q.of<|Q.of<|Q.pk U U<|Q.mv U<|Q.of<|Q.of<|Q.of<|Q.of<|Q.of<|Q.of<|Q.of<|Q.pk U U<|Q.nt<|S.cT U U<|Q.rg<|Q.as U<|Q.nt<|UW.ret<|UQ.aj<|S.bG (λ_=>au U U)<|?_
 focus (rw[nP];simp_all[Jo];done)
 refine Q.on (Z.fa jT U)<|Q.on (Z.dQ 1 Ea U U U)<|Q.on (Z.fa jT U)<|Q.on (Z.dQ 0 Ea U U U)<|Q.on (Z.bi U U U)<|Q.pk U U<|Q.mv U<|?_
 refine S.tO 18 (λhc18=>?_) (λhc18=>?_)
 refine Q.of<|Q.of<|Q.of<|Q.of<|Q.of<|Q.pk U U<|Q.mv U<|Q.of<|Q.of<|Q.of<|Q.of<|Q.of<|Q.of<|Q.pk U U<|Q.mv U<|Q.of<|Q.of<|Q.of<|Q.of<|Q.of<|Q.of<|Q.of<|Q.pk U U<|Q.nt<|S.cT U U<|Q.rg<|Q.as U<|Q.nt<|UW.ret<|UQ.aj<|S.bG (λ_=>au U U)<|?_
 focus (rw[nP];simp_all[Jo];done)
 refine Q.on (Z.fa qZ U)<|Q.on (Z.dQ 1 fJ U U U)<|Q.on (Z.fa qZ U)<|Q.on (Z.dQ 0 fJ U U U)<|Q.on (Z.bs U U U)<|Q.pk U U<|Q.mv U<|?_
 refine S.tO 25 (λhc25=>?_) (λhc25=>?_)
 refine Q.of<|Q.of<|Q.of<|Q.of<|Q.of<|Q.of<|Q.pk U U<|Q.mv U<|Q.of<|Q.of<|Q.of<|Q.of<|Q.of<|Q.of<|Q.of<|Q.pk U U<|Q.nt<|S.cT U U<|Q.rg<|Q.as U<|Q.nt<|UW.ret<|UQ.aj<|S.bG (λ_=>au U U)<|?_
 focus (rw[nP];simp_all[Jo];done)
 refine Q.on (Z.fa dU U)<|Q.on (Z.dQ 1 iE U U U)<|Q.on (Z.fa dU U)<|Q.on (Z.dQ 0 iE U U U)<|Q.on (Z.call U U (λ_=>BQ _ _ h1 _))<|Q.on (Z.not U)<|Q.pk U U<|Q.mv U<|?_
 refine S.tB 33 (λXh=>?_) (λXh=>?_)
 refine Q.of<|Q.of<|Q.of<|Q.of<|Q.of<|Q.of<|Q.of<|Q.pk U U<|Q.nt<|S.cT U U<|Q.rg<|Q.as U<|Q.nt<|UW.ret<|UQ.aj<|S.bG (λ_=>au U U)<|?_
 focus (rw[nP];simp_all[Jo];done)
 refine Q.on (Z.fa bQ U)<|Q.on (Z.dQ 1 dm U U U)<|Q.on (Z.iy bR U)<|Q.on (Z.fa bQ U)<|Q.on (Z.dQ 0 dm U U U)<|Q.on (Z.iy bR U)<|Q.on (Z.bi U U U)<|Q.pk U U<|Q.nt<|?_
 refine S.cO U (λEw=>?_) (λEw=>?_)
 refine Q.rg<|Q.as U<|Q.nt<|UW.ret<|UQ.aj<|S.bG (λ_=>au U U)<|?_
 focus (rw[nP,oW,Ai (f:=nP) (l:=vs) (r:=vs') (by omega)];simp;done)
 refine UW.skip<|UQ.then<|S.sq<|Q.rg<|Q.as U<|Q.nt<|UW.block<|?_
 have hlen:vs.length=vs'.length:=by omega
 refine S.loop (λj:Nat=>[(5,.v (.int .i64 (j:Int))),(2,.ptr p2 0),(3,.ptr p3 0)]) (λ_=>[(p3,.box 27 (aN (.mk k' n' t' ks' vs'))),(p2,.box 27 (aN (.mk k n t ks vs)))]) (λj=>j<=vs.length/\∀(i:Nat) (h:i<vs.length) (h':i<vs'.length),i<j->nP vs[i] vs'[i]=true) (λj=>vs.length-j) 0 ⟨Nat.zero_le _,λi _ _ h=>absurd h (by omega)⟩ ⟨rfl,rfl,rfl,trivial⟩ (.refl _)<|?_
 rintro j ⟨hj,hjj⟩
 by_cases hlt:j<vs.length
 ·have hgl:=jh vs j hlt
  have hgr:=jh vs' j (by omega)
  have hrec:=λH=>ih _ (List.getElem_mem hlt) (vs'[j]'(by omega)) H
  focus
   refine S.sq<|Q.rg<|Q.mv U<|Q.fa bQ U<|Q.lc 1 dm U U U<|S.qu (Z.iy bR U)<|Q.bi U U U<|Q.nt<|S.cT U (decide_eq_true (by omega))<|UW.skip<|UQ.then<|S.sq<|UW.block<|S.sq<|?_
   refine' UW.dC (by kernel_rfl) [0,1,0,7,15,0,32,0,224,480,1023,2047] [some 49,some 50,some 51,some 52,some 53,some 54,some 55,some 56,some 57,some 58,some 59,some 60] [some (49,_),some (50,_),some (51,_),some (52,_),some (53,_),some (54,_),some (55,_),some (56,_),some (57,_),some (58,_),some (59,_),some (60,_)] [] [1,4,6,9] U (by decide) (by decide) (I.free (by decide) U U ?gY (I.held (by decide) U U ?gZ (I.free (by decide) U U ?iK (I.free (by decide) U U ?mP (I.held (by decide) U U ?mQ (I.free (by decide) U U ?qc (I.held (by decide) U U ?qd (I.free (by decide) U U ?uD (I.free (by decide) U U ?uF (I.held (by decide) U U ?uG (I.free (by decide) U U ?qh (I.free (by decide) U U ?qi I.nil)))))))))))) ?oD
   case gY=>(intro _;exact Z.fa bQ rfl)
   case gZ=>exact Z.dQ 1 dm rfl rfl rfl
   case iK=>(intro _;exact Z.mv rfl)
   case mP=>(intro _;exact Z.ia bR rfl rfl (by omega) (by assumption) (by exact ak _))
   case mQ=>exact Z.Cn ay rfl (ak _)
   case qc=>(intro _;exact Z.fa bQ rfl)
   case qd=>exact Z.dQ 0 dm rfl rfl rfl
   case uD=>(intro _;exact Z.mv rfl)
   case uF=>(intro _;exact Z.ia bR rfl rfl (by omega) (by assumption) (by exact ak _))
   case uG=>exact Z.Cn ay rfl (ak _)
   case qh=>(intro _;exact Z.call rfl rfl hrec)
   case qi=>(intro _;exact Z.not rfl)
   refine CH.nil<|?_
   simp only[app,bV]
   refine UQ.then<|?_
   refine S.cB U (λUK=>?_) (λUK=>?_)
   refine Q.rg<|Q.as U<|Q.nt<|UW.ret<|UQ.az<|UQ.aj<|UQ.aj<|UQ.az<|UQ.aj<|S.bG (λ_=>au U U)<|?_
   rotate_left
   refine UW.skip<|UQ.aI<|UQ.then<|S.rg<|Q.mv U<|S.qu (Z.add (r:=((j+1:Nat):Int)) U U (IntWalk.i64_in _ (by omega)))<|Q.as U<|US.nil<|?_
   refine S.back _ ⟨rfl,rfl,rfl,trivial⟩ (.refl _) ?_ (by omega)
   rotate_left
  ·rw[nP,oW,Em j hlt (by omega) (by simpa using UK)];simp
  ·refine⟨by omega,λi h3 h4 h5=>?_⟩
   by_cases hij:i=j
   ·subst hij;simpa using UK
   ·exact hjj i h3 h4 (by omega)
 ·refine S.sq<|Q.rg<|Q.mv U<|Q.fa bQ U<|Q.lc 1 dm U U U<|S.qu (Z.iy bR U)<|Q.bi U U U<|Q.nt<|S.cF U (decide_eq_false (by omega))<|UW.exit<|UQ.pass<|UQ.pass<|UQ.here<|UQ.then<|Q.rg<|Q.as U<|Q.nt<|UW.ret<|S.bG (λ_=>au U U)<|?_
  have e1:Jo t t'=true:=by unfold Jo;simpa using hc25
  rw[nP,oW,si hlen (λi h1 h2=>hjj i h1 h2 (by omega)),iQ,hc18,e1,show x8 Jo ks ks'=true from by simpa using Xh];simp
theorem Mq(l:List Int)(h:∀c∈l,0<=c):Mg (l++[0])=l.foldl (λm c=>if c>m then c else m) 0:=by
 have e1:0<=l.foldl (λm c=>if c>m then c else m) 0:=mM.1
 have e2:l.foldl (λm c=>if c>m then c else m) 0<=Mg (l++[0]):=pW (Eh (by simp)) (λc hc=>Eh (by simp[hc]))
 have e3:Mg (l++[0])<=l.foldl (λm c=>if c>m then c else m) 0:=by
  cases l with
  |nil=>simp[Mg]
  |cons a r=>
   have h1:=mM (r:=a::r) (b:=0)
   exact pW (h1.2 a (by simp)) (λc hc=>by
    rcases List.mem_append.1 hc with h2|h2
    ·exact h1.2 c (by simp[h2])
    ·simp at h2;subst h2;exact e1)
 omega
theorem fo(s:ByteArray)(hs:s.size<=4000000)(H:Hp):F Tryz.prog 24 [.v (.string s)] H (bn H (.v (.int .i64 (nu s)))):=by rw[Jp];exact GJ s hs H
def uH(ks:List ByteArray):Bool:=(List.range ks.length).all (qK ks)
theorem JC(ks:List ByteArray)(hl:ks.length<=1000000)(hks:∀s∈ks,s.size<=4000000)(H:Hp):F Tryz.prog 39 [strs ks] H (bn H (.v (.bool (uH ks)))):=by
 have BM:(ks.map encS).length=ks.length:=List.length_map ..
 refine aA (n:=33) (H0:=H) (M:=[]) Tryz.func39 (by kernel_rfl) U (by rw[Tryz.ntmps39];rfl) .nil<|?_
 refine Q.rg<|Q.as U<|Q.nt<|S.sq<|Q.rg<|Q.as U<|Q.nt<|UW.block<|S.loop (λj:Nat=>[(3,.v (.int .i64 (j:Int))),(0,strs ks)]) (λ_=>[]) (λj=>j<=ks.length/\∀i,i<j->qK ks i=true) (λj=>ks.length-j) 0 ⟨Nat.zero_le _,λi h=>absurd h (by omega)⟩ ⟨rfl,rfl,trivial⟩ (.refl _)<|?_
 rintro j ⟨hj,hjj⟩
 by_cases hlt:j<ks.length
 ·have hgl:=gT ks j hlt
  have hge:ks.getD j ⟨#[]⟩=ks[j]:=getD_at hlt
  have bad:qK ks j=false->uH ks=false:=λhb=>by
   unfold uH
   rw[List.all_eq_false]
   exact⟨j,List.mem_range.2 hlt,by simp[hb]⟩
  have good:qK ks j=true->∀i,i<j+1->qK ks i=true:=λhb i hi=>by
   by_cases hij:i=j
   ·subst hij;exact hb
   ·exact hjj i (by omega)
  by_cases hC:0<=nu ks[j]
  ·have hb:=bad (by unfold qK;rw[hge,decide_eq_false (by omega)];rfl)
   refine S.sq<|Q.rg<|Q.mv U<|Q.mv U<|S.qu (Z.iy bS U)<|Q.bi U U U<|Q.nt<|S.cT U (decide_eq_true (by omega))<|UW.skip<|UQ.then<|S.sq<|UW.block<|S.sq<|?_
   refine' UW.dC (by kernel_rfl) [0,0,3,7,15,31,63,127,255,511,1023,1023,3071,8191,16383,1023,1023,99327,230399,524287,1048575,2097151,4194303] [some 10,some 11,some 12,some 13,some 14,some 15,some 16,some 17,some 18,some 19,some 20,some 21,some 22,some 23,some 24,some 25,some 26,some 27,some 28,some 29,some 30,some 31,some 32] [some (10,_),some (11,_),some (12,_),some (13,_),some (14,_),some (15,_),some (16,_),some (17,_),some (18,_),some (19,_),some (20,_),some (21,_),some (22,_),some (23,_),some (24,_),some (25,_),some (26,_),some (27,_),some (28,_),some (29,_),some (30,_),some (31,_),some (32,_)] [] [3,14,18] U (by decide) (by decide) (I.free (by decide) U U ?gY (I.free (by decide) U U ?gZ (I.free (by decide) U U ?iK (I.held (by decide) U U ?mP (I.free (by decide) U U ?mQ (I.free (by decide) U U ?qc (I.free (by decide) U U ?qd (I.free (by decide) U U ?uD (I.free (by decide) U U ?uF (I.free (by decide) U U ?uG (I.free (by decide) U U ?qh (I.free (by decide) U U ?qi (I.free (by decide) U U ?Ex (I.free (by decide) U U ?Ey (I.held (by decide) U U ?Ez (I.free (by decide) U U ?EA (I.free (by decide) U U ?EB (I.free (by decide) U U ?EC (I.held (by decide) U U ?ED (I.free (by decide) U U ?EE (I.free (by decide) U U ?EF (I.free (by decide) U U ?EG (I.free (by decide) U U ?EH I.nil))))))))))))))))))))))) ?oD
   case gY=>(intro _;exact Z.mv rfl)
   case gZ=>(intro _;exact Z.mv rfl)
   case iK=>(intro _;exact Z.ia bS rfl rfl (by omega) (by assumption) (by rfl))
   case mP=>exact Z.lF fJ rfl
   case mQ=>(intro _;exact Z.call rfl rfl (λ_=>fo _ (hks _ (List.getElem_mem hlt)) _))
   case qc=>(intro _;exact Z.tT (Z.bi rfl rfl rfl) (decide_eq_true (by omega)))
   case qd=>(intro _;exact Z.mv rfl)
   case uD=>(intro _;exact Z.of)
   case uF=>(intro _;exact Z.of)
   case uG=>(intro _;exact Z.of)
   case qh=>(intro _;exact Z.Nn)
   case qi=>(intro _;exact Z.Nn)
   case Ex=>(intro _;exact Z.Nn)
   case Ey=>(intro _;exact Z.Nn)
   case Ez=>exact Z.Nn
   case EA=>(intro _;exact Z.Nn)
   case EB=>(intro _;exact Z.Nn)
   case EC=>(intro _;exact Z.Nn)
   case ED=>exact Z.Nn
   case EE=>(intro _;exact Z.Nn)
   case EF=>(intro _;exact Z.Nn)
   case EG=>(intro _;exact Z.of)
   case EH=>(intro _;exact Z.pick rfl rfl)
   refine CH.nil<|?_
   simp only[app,bV]
   refine UQ.then<|S.cT U U<|Q.rg<|Q.as U<|Q.nt<|UW.ret<|UQ.az<|UQ.aj<|UQ.aj<|UQ.az<|UQ.aj<|S.bG (λ_=>au U U)<|?_
   focus (rw[hb];done)
  ·by_cases h0:0<j
   ·have hgp:=GH ks j hlt h0
    have hpm:ks.getD (j-1) ⟨#[]⟩∈ks:=jV (by omega)
    have hpb:=hks _ hpm
    cases hL:iO (ks.getD (j-1) ⟨#[]⟩) ks[j] with
    |true=>
     have hL2:(!(iO (ks.getD (j-1) ⟨#[]⟩) ks[j]))=false:=by rw[hL];rfl
     have hok:qK ks j=true:=by
      unfold iO at hL
      unfold qK;rw[hge,hL,decide_eq_true (by omega)];simp
     refine S.sq<|Q.rg<|Q.mv U<|Q.mv U<|S.qu (Z.iy bS U)<|Q.bi U U U<|Q.nt<|S.cT U (decide_eq_true (by omega))<|UW.skip<|UQ.then<|S.sq<|UW.block<|S.sq<|?_
     refine' UW.dC (by kernel_rfl) [0,0,3,7,15,31,63,127,255,511,1023,1023,3071,8191,16383,1023,1023,99327,230399,524287,1048575,2097151,4194303] [some 10,some 11,some 12,some 13,some 14,some 15,some 16,some 17,some 18,some 19,some 20,some 21,some 22,some 23,some 24,some 25,some 26,some 27,some 28,some 29,some 30,some 31,some 32] [some (10,_),some (11,_),some (12,_),some (13,_),some (14,_),some (15,_),some (16,_),some (17,_),some (18,_),some (19,_),some (20,_),some (21,_),some (22,_),some (23,_),some (24,_),some (25,_),some (26,_),some (27,_),some (28,_),some (29,_),some (30,_),some (31,_),some (32,_)] [] [3,14,18] U (by decide) (by decide) (I.free (by decide) U U ?fG (I.free (by decide) U U ?fH (I.free (by decide) U U ?iL (I.held (by decide) U U ?jF (I.free (by decide) U U ?jG (I.free (by decide) U U ?mV (I.free (by decide) U U ?mW (I.free (by decide) U U ?uI (I.free (by decide) U U ?uJ (I.free (by decide) U U ?uK (I.free (by decide) U U ?vW (I.free (by decide) U U ?vX (I.free (by decide) U U ?vY (I.free (by decide) U U ?vZ (I.held (by decide) U U ?wh (I.free (by decide) U U ?wm (I.free (by decide) U U ?wo (I.free (by decide) U U ?wu (I.held (by decide) U U ?wy (I.free (by decide) U U ?wz (I.free (by decide) U U ?EI (I.free (by decide) U U ?EJ (I.free (by decide) U U ?EK I.nil))))))))))))))))))))))) ?lG
     case fG=>(intro _;exact Z.mv rfl)
     case fH=>(intro _;exact Z.mv rfl)
     case iL=>(intro _;exact Z.ia bS rfl rfl (by omega) (by assumption) (by rfl))
     case jF=>exact Z.lF fJ rfl
     case jG=>(intro _;exact Z.call rfl rfl (λ_=>fo _ (hks _ (List.getElem_mem hlt)) _))
     case mV=>(intro _;exact Z.tF (Z.bi rfl rfl rfl) (decide_eq_false (by omega)))
     case mW=>(intro _;exact Z.mv rfl)
     case uI=>(intro _;exact Z.on (Z.mv rfl))
     case uJ=>(intro _;exact Z.on (Z.tT (Z.bi rfl rfl rfl) (decide_eq_true (by omega))))
     case uK=>(intro _;exact Z.on (Z.mv rfl))
     case vW=>(intro _;exact Z.on (Z.mv rfl))
     case vX=>(intro _;exact Z.on (Z.mv rfl))
     case vY=>(intro _;exact Z.on (Z.sub rfl rfl (IntWalk.i64_in _ (by omega))))
     case vZ=>(intro _;exact Z.on (Z.ia bS rfl rfl (by omega) (by assumption) (by rfl)))
     case wh=>exact Z.on (Z.lF fJ rfl)
     case wm=>(intro _;exact Z.on (Z.mv rfl))
     case wo=>(intro _;exact Z.on (Z.mv rfl))
     case wu=>(intro _;exact Z.on (Z.ia bS rfl rfl (by omega) (by assumption) (by rfl)))
     case wy=>exact Z.on (Z.lF fJ rfl)
     case wz=>(intro _;exact Z.on (Z.tT (Z.call rfl rfl (λ_=>qb _ _ hpb _)) (by assumption)))
     case EI=>(intro _;exact Z.on (Z.not rfl))
     case EJ=>(intro _;exact Z.on (Z.pick rfl rfl))
     case EK=>(intro _;exact Z.pick rfl rfl)
     refine CH.nil<|?_
     simp only[app,bV]
     refine UQ.then<|S.cF U U<|UW.skip<|UQ.aI<|UQ.then<|S.rg<|Q.mv U<|S.qu (Z.add (r:=((j+1:Nat):Int)) U U (IntWalk.i64_in _ (by omega)))<|Q.as U<|US.nil<|?_
     refine S.back _ ⟨rfl,rfl,trivial⟩ (.refl _) ?_ (by omega)
     focus (exact⟨by omega,good hok⟩;done)
    |false=>
     have hL2:(!(iO (ks.getD (j-1) ⟨#[]⟩) ks[j]))=true:=by rw[hL];rfl
     have hb:=bad (by
      unfold iO at hL
      unfold qK;rw[hge,hL,decide_eq_false (by omega:¬j=0)];simp)
     refine S.sq<|Q.rg<|Q.mv U<|Q.mv U<|S.qu (Z.iy bS U)<|Q.bi U U U<|Q.nt<|S.cT U (decide_eq_true (by omega))<|UW.skip<|UQ.then<|S.sq<|UW.block<|S.sq<|?_
     refine' UW.dC (by kernel_rfl) [0,0,3,7,15,31,63,127,255,511,1023,1023,3071,8191,16383,1023,1023,99327,230399,524287,1048575,2097151,4194303] [some 10,some 11,some 12,some 13,some 14,some 15,some 16,some 17,some 18,some 19,some 20,some 21,some 22,some 23,some 24,some 25,some 26,some 27,some 28,some 29,some 30,some 31,some 32] [some (10,_),some (11,_),some (12,_),some (13,_),some (14,_),some (15,_),some (16,_),some (17,_),some (18,_),some (19,_),some (20,_),some (21,_),some (22,_),some (23,_),some (24,_),some (25,_),some (26,_),some (27,_),some (28,_),some (29,_),some (30,_),some (31,_),some (32,_)] [] [3,14,18] U (by decide) (by decide) (I.free (by decide) U U ?ic (I.free (by decide) U U ?ig (I.free (by decide) U U ?mX (I.held (by decide) U U ?qj (I.free (by decide) U U ?ql (I.free (by decide) U U ?uL (I.free (by decide) U U ?uM (I.free (by decide) U U ?uO (I.free (by decide) U U ?uP (I.free (by decide) U U ?uQ (I.free (by decide) U U ?qm (I.free (by decide) U U ?wB (I.free (by decide) U U ?wC (I.free (by decide) U U ?wD (I.held (by decide) U U ?wE (I.free (by decide) U U ?wF (I.free (by decide) U U ?wG (I.free (by decide) U U ?wH (I.held (by decide) U U ?wI (I.free (by decide) U U ?wJ (I.free (by decide) U U ?wK (I.free (by decide) U U ?wL (I.free (by decide) U U ?wM I.nil))))))))))))))))))))))) ?oF
     case ic=>(intro _;exact Z.mv rfl)
     case ig=>(intro _;exact Z.mv rfl)
     case mX=>(intro _;exact Z.ia bS rfl rfl (by omega) (by assumption) (by rfl))
     case qj=>exact Z.lF fJ rfl
     case ql=>(intro _;exact Z.call rfl rfl (λ_=>fo _ (hks _ (List.getElem_mem hlt)) _))
     case uL=>(intro _;exact Z.tF (Z.bi rfl rfl rfl) (decide_eq_false (by omega)))
     case uM=>(intro _;exact Z.mv rfl)
     case uO=>(intro _;exact Z.on (Z.mv rfl))
     case uP=>(intro _;exact Z.on (Z.tT (Z.bi rfl rfl rfl) (decide_eq_true (by omega))))
     case uQ=>(intro _;exact Z.on (Z.mv rfl))
     case qm=>(intro _;exact Z.on (Z.mv rfl))
     case wB=>(intro _;exact Z.on (Z.mv rfl))
     case wC=>(intro _;exact Z.on (Z.sub rfl rfl (IntWalk.i64_in _ (by omega))))
     case wD=>(intro _;exact Z.on (Z.ia bS rfl rfl (by omega) (by assumption) (by rfl)))
     case wE=>exact Z.on (Z.lF fJ rfl)
     case wF=>(intro _;exact Z.on (Z.mv rfl))
     case wG=>(intro _;exact Z.on (Z.mv rfl))
     case wH=>(intro _;exact Z.on (Z.ia bS rfl rfl (by omega) (by assumption) (by rfl)))
     case wI=>exact Z.on (Z.lF fJ rfl)
     case wJ=>(intro _;exact Z.on (Z.tF (Z.call rfl rfl (λ_=>qb _ _ hpb _)) (by assumption)))
     case wK=>(intro _;exact Z.on (Z.not rfl))
     case wL=>(intro _;exact Z.on (Z.pick rfl rfl))
     case wM=>(intro _;exact Z.pick rfl rfl)
     refine CH.nil<|?_
     simp only[app,bV]
     refine UQ.then<|S.cT U U<|Q.rg<|Q.as U<|Q.nt<|UW.ret<|UQ.az<|UQ.aj<|UQ.aj<|UQ.az<|UQ.aj<|S.bG (λ_=>au U U)<|?_
     focus (rw[hb];done)
   ·have hok:qK ks j=true:=by unfold qK;rw[hge,decide_eq_true (by omega:j=0),decide_eq_true (by omega)];rfl
    refine S.sq<|Q.rg<|Q.mv U<|Q.mv U<|S.qu (Z.iy bS U)<|Q.bi U U U<|Q.nt<|S.cT U (decide_eq_true (by omega))<|UW.skip<|UQ.then<|S.sq<|UW.block<|S.sq<|?_
    refine' UW.dC (by kernel_rfl) [0,0,3,7,15,31,63,127,255,511,1023,1023,3071,8191,16383,1023,1023,99327,230399,524287,1048575,2097151,4194303] [some 10,some 11,some 12,some 13,some 14,some 15,some 16,some 17,some 18,some 19,some 20,some 21,some 22,some 23,some 24,some 25,some 26,some 27,some 28,some 29,some 30,some 31,some 32] [some (10,_),some (11,_),some (12,_),some (13,_),some (14,_),some (15,_),some (16,_),some (17,_),some (18,_),some (19,_),some (20,_),some (21,_),some (22,_),some (23,_),some (24,_),some (25,_),some (26,_),some (27,_),some (28,_),some (29,_),some (30,_),some (31,_),some (32,_)] [] [3,14,18] U (by decide) (by decide) (I.free (by decide) U U ?kE (I.free (by decide) U U ?kF (I.free (by decide) U U ?mJ (I.held (by decide) U U ?mK (I.free (by decide) U U ?qo (I.free (by decide) U U ?pQ (I.free (by decide) U U ?pU (I.free (by decide) U U ?pV (I.free (by decide) U U ?ug (I.free (by decide) U U ?uh (I.free (by decide) U U ?wN (I.free (by decide) U U ?wO (I.free (by decide) U U ?wP (I.free (by decide) U U ?wQ (I.held (by decide) U U ?wR (I.free (by decide) U U ?wS (I.free (by decide) U U ?wT (I.free (by decide) U U ?wU (I.held (by decide) U U ?wV (I.free (by decide) U U ?wW (I.free (by decide) U U ?EL (I.free (by decide) U U ?EM (I.free (by decide) U U ?EN I.nil))))))))))))))))))))))) ?xY
    case kE=>(intro _;exact Z.mv rfl)
    case kF=>(intro _;exact Z.mv rfl)
    case mJ=>(intro _;exact Z.ia bS rfl rfl (by omega) (by assumption) (by rfl))
    case mK=>exact Z.lF fJ rfl
    case qo=>(intro _;exact Z.call rfl rfl (λ_=>fo _ (hks _ (List.getElem_mem hlt)) _))
    case pQ=>(intro _;exact Z.tF (Z.bi rfl rfl rfl) (decide_eq_false (by omega)))
    case pU=>(intro _;exact Z.mv rfl)
    case pV=>(intro _;exact Z.on (Z.mv rfl))
    case ug=>(intro _;exact Z.on (Z.tF (Z.bi rfl rfl rfl) (decide_eq_false (by omega))))
    case uh=>(intro _;exact Z.on (Z.mv rfl))
    case wN=>(intro _;exact Z.of)
    case wO=>(intro _;exact Z.of)
    case wP=>(intro _;exact Z.of)
    case wQ=>(intro _;exact Z.of)
    case wR=>exact Z.of
    case wS=>(intro _;exact Z.of)
    case wT=>(intro _;exact Z.of)
    case wU=>(intro _;exact Z.of)
    case wV=>exact Z.of
    case wW=>(intro _;exact Z.of)
    case EL=>(intro _;exact Z.of)
    case EM=>(intro _;exact Z.on (Z.pick rfl rfl))
    case EN=>(intro _;exact Z.pick rfl rfl)
    refine CH.nil<|?_
    simp only[app,bV]
    refine UQ.then<|S.cF U U<|UW.skip<|UQ.aI<|UQ.then<|S.rg<|Q.mv U<|S.qu (Z.add (r:=((j+1:Nat):Int)) U U (IntWalk.i64_in _ (by omega)))<|Q.as U<|US.nil<|?_
    refine S.back _ ⟨rfl,rfl,trivial⟩ (.refl _) ?_ (by omega)
    focus (exact⟨by omega,good hok⟩;done)
 ·refine S.sq<|Q.rg<|Q.mv U<|Q.mv U<|S.qu (Z.iy bS U)<|Q.bi U U U<|Q.nt<|S.cF U (decide_eq_false (by omega))<|UW.exit<|UQ.pass<|UQ.pass<|UQ.here<|UQ.then<|Q.rg<|Q.as U<|Q.nt<|UW.ret<|S.bG (λ_=>au U U)<|?_
  have:uH ks=true:=by
   unfold uH
   rw[List.all_eq_true]
   exactλi hi=>hjj i (by have:=List.mem_range.1 hi;omega)
  rw[this]
inductive Tx:V->Prop
 |mk (k n:Int) (t:ByteArray) (ks:List ByteArray) (vs:List V) (h1:t.size<=4000000) (h2:∀s∈ks,s.size<=4000000) (h:∀x∈vs,Tx x):Tx (.mk k n t ks vs)
theorem Tx.tx{k n:Int}{t:ByteArray}{ks:List ByteArray}{vs:List V}(h:Tx (.mk k n t ks vs)):t.size<=4000000:=by cases h;assumption
theorem Tx.keys{k n:Int}{t:ByteArray}{ks:List ByteArray}{vs:List V}(h:Tx (.mk k n t ks vs)):∀s∈ks,s.size<=4000000:=by cases h;assumption
theorem Tx.vals{k n:Int}{t:ByteArray}{ks:List ByteArray}{vs:List V}(h:Tx (.mk k n t ks vs)):∀x∈vs,Tx x:=by cases h;assumption
def rE(k:Int)(t:ByteArray):Bool:=!(!(t.toList==(⟨#[]⟩:ByteArray).toList)&&(!(k==3)||decide (0<=nu t)))
section
variable {k n:Int} {t:ByteArray} {ks:List ByteArray} {vs:List V}
theorem kJ:gN (.mk k n t ks vs)=((decide (0<=k)&&decide (k<=5)&&vS (.mk k n t ks vs)&&pX (.mk k n t ks vs))&&rE k t&&!(decide (k<4)&&decide ((0:Int)<vs.length))&&lT vs):=by rw[gN];rfl
theorem Ay:vS (.mk k n t ks vs)=if k=1 then(n==0||n==1) else if k=2 then(decide (-9007199254740991<=n)&&decide (n<=9007199254740991)) else(n==0):=rfl
theorem JD(h:(k=1->n=0\/n=1)/\(k=2-> -9007199254740991<=n/\n<=9007199254740991)/\(k≠1->k≠2->n=0)):vS (.mk k n t ks vs)=true:=by
 rw[Ay]
 split
 ·rename_i h1;rcases h.1 h1 with h2|h2<;>simp[h2]
 ·split
  ·rename_i h1 h2;have:=h.2.1 h2;simp;omega
  ·rename_i h1 h2;simp[h.2.2 h1 h2]
theorem JE(h:(k=1/\n≠0/\n≠1)\/(k=2/\(n< -9007199254740991\/9007199254740991<n))\/(k≠1/\k≠2/\n≠0)):vS (.mk k n t ks vs)=false:=by
 rw[Ay]
 split
 ·rename_i h1;simp;omega
 ·split
  ·rename_i h1 h2;simp;omega
  ·rename_i h1 h2;simp;omega
theorem ma(h:k<0\/5<k\/(k=1/\n≠0/\n≠1)\/(k=2/\(n< -9007199254740991\/9007199254740991<n))\/(k≠1/\k≠2/\n≠0)):gN (.mk k n t ks vs)=false:=by
 rw[kJ]
 rcases h with h|h|h
 ·rw[decide_eq_false (by omega:¬0<=k)];simp
 ·rw[decide_eq_false (by omega:¬k<=5)];simp
 ·rw[JE h];simp
theorem CG(h:rE k t=false):gN (.mk k n t ks vs)=false:=by rw[kJ,h];simp
theorem yf(h:pX (.mk k n t ks vs)=false):gN (.mk k n t ks vs)=false:=by rw[kJ,h];simp
theorem Mr(h1:k<4)(h2:0<vs.length):gN (.mk k n t ks vs)=false:=by rw[kJ,decide_eq_true h1,decide_eq_true (by omega:(0:Int)<vs.length)];simp
theorem Ms(h:lT vs=false):gN (.mk k n t ks vs)=false:=by rw[kJ,h];simp
theorem Mt(h1:0<=k)(h2:k<=5)(h3:(k=1->n=0\/n=1)/\(k=2-> -9007199254740991<=n/\n<=9007199254740991)/\(k≠1->k≠2->n=0))(h4:rE k t=true)(h5:pX (.mk k n t ks vs)=true)(h6:¬(k<4/\0<vs.length))(h7:lT vs=true):gN (.mk k n t ks vs)=true:=by
 rw[kJ,JD h3,h4,h5,h7,decide_eq_true h1,decide_eq_true h2]
 by_cases h:k<4
 ·rw[decide_eq_false (by omega:¬(0:Int)<vs.length)];simp
 ·rw[decide_eq_false h];simp
theorem uR(h:k=5):pX (.mk k n t ks vs)=(uH ks&&((ks.length:Int)==(vs.length:Int))):=by unfold pX uH;simp[V.k,V.ks,V.vs,h]
theorem yM(h:k≠5):pX (.mk k n t ks vs)=((ks.length:Int)==0):=by unfold pX;simp[V.k,V.ks,h]
end
theorem JF{vs:List V}{j:Nat}(h:j<vs.length)(hr:gN vs[j]=false):lT vs=false:=by
 rw[uq]
 have:vs.any (λx=>!gN x)=true:=by rw[List.any_eq_true];exact⟨_,List.getElem_mem h,by simp[hr]⟩
 rw[this];rfl
theorem GV{vs:List V}(h:∀(j:Nat) (h:j<vs.length),gN vs[j]=true):lT vs=true:=by
 rw[uq]
 have:vs.any (λx=>!gN x)=false:=by
  rw[List.any_eq_false]
  intro x hx
  obtain⟨j,hj,rfl⟩:=List.getElem_of_mem hx
  simp[h j hj]
 rw[this];rfl
theorem yN(x:V)(hx:Fits x):∀(htx:Tx x) (H:Hp),F Tryz.prog 25 [.agg (aN x)] H (bn H (.v (.bool (gN x)))):=by
 induction hx with
 |mk k n t ks vs h1 h2 h ih=>
 intro htx H
 have hvl:=aS vs
 have hkl:(ks.map encS).length=ks.length:=List.length_map ..
 refine aA (n:=118) (H0:=H) (M:=[]) Tryz.func25 (by kernel_rfl) U (by rw[Tryz.ntmps25];rfl) .nil<|?_
 refine Q.rg<|S.dd<|D.box U U U λp1=>Q.as U<|Q.nt<|?_
 refine S.cut [(1,.ptr p1 0)] [(p1,.box 27 (aN (.mk k n t ks vs)))] (0<=k/\k<=5/\(k=1->n=0\/n=1)/\(k=2-> -9007199254740991<=n/\n<=9007199254740991)/\(k≠1->k≠2->n=0)) ?_ (λYL=>?_)
 refine Q.rg<|Q.fa eO U<|Q.lc 0 bC U U U<|Q.bi U U U<|Q.mv U<|?_
 refine S.tD 7 (λYM=>?_) (λYM=>?_)
 refine Q.of<|Q.of<|Q.of<|Q.pk U U<|Q.mv U<|Q.of<|Q.of<|Q.of<|Q.of<|Q.ou<|Q.ou<|Q.ou<|Q.of<|Q.of<|Q.ou<|Q.ou<|Q.ou<|Q.of<|Q.pk U U<|Q.mv U<|Q.of<|Q.of<|Q.of<|Q.of<|Q.ou<|Q.ou<|Q.ou<|Q.of<|Q.of<|Q.ou<|Q.ou<|Q.ou<|Q.of<|Q.pk U U<|Q.mv U<|Q.of<|Q.of<|Q.of<|Q.pk U U<|Q.mv U<|?_
 refine Q.of<|Q.of<|Q.of<|Q.pk U U<|Q.nt<|S.cT U U<|Q.rg<|Q.as U<|Q.nt<|UW.ret<|UQ.aj<|S.bG (λ_=>au U U)<|?_
 focus (rw[ma (by omega)];done)
 refine Q.on (Z.fa eO U)<|Q.on (Z.dQ 0 bC U U U)<|Q.on (Z.bi U U U)<|Q.pk U U<|Q.mv U<|?_
 refine S.tD 12 (λyc=>?_) (λyc=>?_)
 refine Q.of<|Q.of<|Q.of<|Q.of<|Q.ou<|Q.ou<|Q.ou<|Q.of<|Q.of<|Q.ou<|Q.ou<|Q.ou<|Q.of<|Q.pk U U<|Q.mv U<|Q.of<|Q.of<|Q.of<|Q.of<|Q.ou<|Q.ou<|Q.ou<|Q.of<|Q.of<|Q.ou<|Q.ou<|Q.ou<|Q.of<|Q.pk U U<|Q.mv U<|Q.of<|Q.of<|Q.of<|Q.pk U U<|Q.mv U<|Q.of<|Q.of<|Q.of<|Q.pk U U<|Q.nt<|?_
 refine S.cT U U<|Q.rg<|Q.as U<|Q.nt<|UW.ret<|UQ.aj<|S.bG (λ_=>au U U)<|?_
 focus (rw[ma (by omega)];done)
 refine Q.on (Z.fa jT U)<|Q.on (Z.dQ 0 Ea U U U)<|Q.on (Z.bi U U U)<|Q.on (Z.mv U)<|?_
 refine S.tO 16 (λhc16=>?_) (λhc16=>?_)
 refine Q.on (Z.fa eO U)<|Q.on (Z.dQ 0 bC U U U)<|Q.on (Z.bi U U U)<|Q.on (Z.pick U U)<|Q.on (Z.mv U)<|?_
 refine S.tO 21 (λhc21=>?_) (λhc21=>?_)
 refine Q.on (Z.fa eO U)<|Q.on (Z.dQ 0 bC U U U)<|Q.on (Z.bi U U U)<|Q.on (Z.pick U U)<|Q.pk U U<|Q.mv U<|?_
 refine S.tO 27 (λhc27=>?_) (λhc27=>?_)
 refine Q.of<|Q.of<|Q.of<|Q.of<|Q.ou<|Q.ou<|Q.ou<|Q.of<|Q.of<|Q.ou<|Q.ou<|Q.ou<|Q.of<|Q.pk U U<|Q.mv U<|Q.of<|Q.of<|Q.of<|Q.pk U U<|Q.mv U<|Q.of<|Q.of<|Q.of<|Q.pk U U<|Q.nt<|S.cT U U<|Q.rg<|Q.as U<|Q.nt<|UW.ret<|UQ.aj<|S.bG (λ_=>au U U)<|?_
 focus (rw[ma (by omega)];done)
 refine Q.on (Z.fa eO U)<|Q.on (Z.dQ 0 bC U U U)<|Q.on (Z.bi U U U)<|Q.on (Z.mv U)<|S.tF 31 (bf (by omega))<|Q.of<|Q.of<|Q.of<|Q.on (Z.pick U U)<|Q.on (Z.mv U)<|Q.of<|Q.of<|Q.of<|Q.on (Z.pick U U)<|Q.pk U U<|Q.mv U<|Q.on (Z.fa jT U)<|Q.on (Z.dQ 0 Ea U U U)<|Q.on (Z.bi U U U)<|Q.pk U U<|Q.mv U<|?_
 refine S.tD 47 (λhc47=>?_) (λhc47=>?_)
 refine Q.of<|Q.of<|Q.of<|Q.pk U U<|Q.nt<|S.cT U U<|Q.rg<|Q.as U<|Q.nt<|UW.ret<|UQ.aj<|S.bG (λ_=>au U U)<|?_
 focus (rw[ma (by omega)];done)
 refine Q.on (Z.fa jT U)<|Q.on (Z.dQ 0 Ea U U U)<|Q.on (Z.bi U U U)<|Q.pk U U<|Q.nt<|?_
 refine S.cD U (λuT=>?_) (λuT=>?_)
 refine Q.rg<|Q.as U<|Q.nt<|UW.ret<|UQ.aj<|S.bG (λ_=>au U U)<|?_
 focus (rw[ma (by omega)];done)
 refine UW.skip<|?_
 refine S.fin ⟨rfl,trivial⟩ (.refl _) (by omega)
 refine Q.of<|Q.of<|Q.of<|Q.on (Z.pick U U)<|Q.pk U U<|Q.mv U<|Q.on (Z.fa eO U)<|Q.on (Z.dQ 0 bC U U U)<|Q.on (Z.bi U U U)<|Q.on (Z.mv U)<|S.tT 31 (cZ (by omega))<|Q.on (Z.fa jT U)<|Q.on (Z.dQ 0 Ea U U U)<|Q.on (Z.bi U U U)<|Q.on (Z.pick U U)<|Q.on (Z.mv U)<|S.tT 36 (jM (by omega))<|Q.on (Z.fa jT U)<|Q.on (Z.dQ 0 Ea U U U)<|Q.on (Z.bi U U U)<|Q.on (Z.pick U U)<|Q.pk U U<|Q.mv U<|?_
 refine S.tO 42 (λYN=>?_) (λYN=>?_)
 refine Q.of<|Q.of<|Q.of<|Q.pk U U<|Q.mv U<|Q.of<|Q.of<|Q.of<|Q.pk U U<|Q.nt<|S.cT U U<|Q.rg<|Q.as U<|Q.nt<|UW.ret<|UQ.aj<|S.bG (λ_=>au U U)<|?_
 focus (rw[ma (by omega)];done)
 refine Q.on (Z.fa jT U)<|Q.on (Z.dQ 0 Ea U U U)<|Q.on (Z.bi U U U)<|Q.pk U U<|Q.mv U<|?_
 refine S.tD 47 (λhc47=>?_) (λhc47=>?_)
 omega
 refine Q.on (Z.fa jT U)<|Q.on (Z.dQ 0 Ea U U U)<|Q.on (Z.bi U U U)<|Q.pk U U<|Q.nt<|S.cF U (decide_eq_false (by omega))<|UW.skip<|?_
 refine S.fin ⟨rfl,trivial⟩ (.refl _) (by omega)
 refine Q.of<|Q.of<|Q.of<|Q.on (Z.pick U U)<|Q.on (Z.mv U)<|Q.of<|Q.of<|Q.of<|Q.on (Z.pick U U)<|Q.pk U U<|Q.mv U<|Q.on (Z.fa eO U)<|Q.on (Z.dQ 0 bC U U U)<|Q.on (Z.bi U U U)<|Q.on (Z.mv U)<|?_
 refine S.tE 31 (λhc31=>?_) (λhc31=>?_)
 refine Q.on (Z.fa jT U)<|Q.on (Z.dQ 0 Ea U U U)<|Q.on (Z.bi U U U)<|Q.on (Z.pick U U)<|Q.on (Z.mv U)<|?_
 refine S.tO 36 (λAz=>?_) (λAz=>?_)
 omega
 refine Q.of<|Q.of<|Q.of<|Q.on (Z.pick U U)<|Q.pk U U<|Q.mv U<|Q.on (Z.fa jT U)<|Q.on (Z.dQ 0 Ea U U U)<|Q.on (Z.bi U U U)<|Q.pk U U<|Q.mv U<|?_
 refine S.tD 47 (λhc47=>?_) (λhc47=>?_)
 omega
 refine Q.on (Z.fa jT U)<|Q.on (Z.dQ 0 Ea U U U)<|Q.on (Z.bi U U U)<|Q.pk U U<|Q.nt<|S.cF U (decide_eq_false (by omega))<|UW.skip<|?_
 refine S.fin ⟨rfl,trivial⟩ (.refl _) (by omega)
 refine Q.of<|Q.of<|Q.of<|Q.on (Z.pick U U)<|Q.on (Z.mv U)<|Q.of<|Q.of<|Q.of<|Q.on (Z.pick U U)<|Q.pk U U<|Q.mv U<|Q.on (Z.fa jT U)<|Q.on (Z.dQ 0 Ea U U U)<|Q.on (Z.bi U U U)<|Q.pk U U<|Q.mv U<|?_
 refine S.tD 47 (λhc47=>?_) (λhc47=>?_)
 omega
 refine Q.on (Z.fa jT U)<|Q.on (Z.dQ 0 Ea U U U)<|Q.on (Z.bi U U U)<|Q.pk U U<|Q.nt<|S.cF U (decide_eq_false (by omega))<|UW.skip<|?_
 refine S.fin ⟨rfl,trivial⟩ (.refl _) (by omega)
 refine S.cut [(1,.ptr p1 0)] [(p1,.box 27 (aN (.mk k n t ks vs)))] (rE k t=true) ?_ (λhJ2=>?_)
 refine Q.rg<|Q.fa qZ U<|Q.lc 0 fJ U U U<|S.qu (Z.bs U U U)<|Q.mv U<|?_
 refine S.tO 55 (λYO=>?_) (λYO=>?_)
 refine Q.on (Z.fa eO U)<|Q.on (Z.dQ 0 bC U U U)<|Q.on (Z.bi U U U)<|Q.on (Z.mv U)<|?_
 refine S.tO 59 (λEO=>?_) (λEO=>?_)
 refine Q.of<|Q.of<|Q.of<|Q.of<|Q.on (Z.pick U U)<|Q.pk U U<|Q.nt<|S.cT U U<|Q.rg<|Q.as U<|Q.nt<|UW.ret<|UQ.aj<|S.bG (λ_=>au U U)<|?_
 focus (rw[CG (by unfold rE;simp_all)];done)
 refine Q.on (Z.fa qZ U)<|Q.on (Z.dQ 0 fJ U U U)<|Q.on (Z.call U U (λ_=>fo _ htx.tx _))<|Q.on (Z.bi U U U)<|Q.on (Z.pick U U)<|Q.pk U U<|Q.nt<|?_
 refine S.cD U (λN8=>?_) (λN8=>?_)
 refine Q.rg<|Q.as U<|Q.nt<|UW.ret<|UQ.aj<|S.bG (λ_=>au U U)<|?_
 focus (rw[CG (by unfold rE;simp_all)];done)
 refine UW.skip<|?_
 refine S.fin ⟨rfl,trivial⟩ (.refl _) (by unfold rE;simp_all;done)
 refine Q.of<|Q.of<|Q.of<|Q.of<|Q.ou<|Q.ou<|Q.ou<|Q.ou<|Q.of<|Q.pk U U<|Q.nt<|S.cF U U<|UW.skip<|?_
 refine S.fin ⟨rfl,trivial⟩ (.refl _) (by unfold rE;simp_all;done)
 refine S.cut [(1,.ptr p1 0)] [(p1,.box 27 (aN (.mk k n t ks vs)))] (pX (.mk k n t ks vs)=true) ?_ (λhJ3=>?_)
 refine Q.rg<|Q.fa eO U<|Q.lc 0 bC U U U<|Q.bi U U U<|Q.mv U<|?_
 refine S.tO 69 (λYP=>?_) (λYP=>?_)
 refine Q.on (Z.fa dU U)<|Q.on (Z.dQ 0 iE U U U)<|Q.on (Z.iy bS U)<|Q.on (Z.bi U U U)<|Q.pk U U<|Q.mv U<|?_
 refine S.tD 75 (λYQ=>?_) (λYQ=>?_)
 refine Q.of<|Q.of<|Q.of<|Q.of<|Q.ou<|Q.ou<|Q.ou<|Q.ou<|Q.ou<|Q.ou<|Q.ou<|Q.ou<|Q.ou<|Q.ou<|Q.ou<|Q.ou<|Q.ou<|Q.of<|Q.pk U U<|Q.nt<|S.cT U U<|Q.rg<|Q.as U<|Q.nt<|UW.ret<|UQ.aj<|S.bG (λ_=>au U U)<|?_
 focus (rw[yf (by rw[yM (by omega),bf (by omega)])];done)
 refine Q.on (Z.fa eO U)<|Q.on (Z.dQ 0 bC U U U)<|Q.on (Z.bi U U U)<|Q.on (Z.mv U)<|S.tF 79 (bf (by omega))<|Q.of<|Q.of<|Q.of<|Q.of<|Q.of<|Q.of<|Q.of<|Q.of<|Q.ou<|Q.ou<|Q.ou<|Q.ou<|Q.of<|Q.on (Z.pick U U)<|Q.pk U U<|Q.nt<|S.cF U U<|UW.skip<|?_
 refine S.fin ⟨rfl,trivial⟩ (.refl _) (by rw[yM (by omega),cZ (by omega)])
 refine Q.of<|Q.of<|Q.of<|Q.of<|Q.pk U U<|Q.mv U<|Q.on (Z.fa eO U)<|Q.on (Z.dQ 0 bC U U U)<|Q.on (Z.bi U U U)<|Q.on (Z.mv U)<|S.tT 79 (cZ (by omega))<|Q.on (Z.fa dU U)<|Q.on (Z.dQ 0 iE U U U)<|Q.on (Z.iy bS U)<|Q.on (Z.fa bQ U)<|Q.on (Z.dQ 0 dm U U U)<|Q.on (Z.iy bR U)<|Q.on (Z.bi U U U)<|Q.on (Z.mv U)<|?_
 refine S.tO 87 (λYR=>?_) (λYR=>?_)
 refine Q.of<|Q.of<|Q.of<|Q.of<|Q.on (Z.pick U U)<|Q.on (Z.pick U U)<|Q.pk U U<|Q.nt<|S.cT U U<|Q.rg<|Q.as U<|Q.nt<|UW.ret<|UQ.aj<|S.bG (λ_=>au U U)<|?_
 focus (rw[yf (by rw[uR (by omega)];simp_all)];done)
 refine Q.on (Z.fa dU U)<|Q.on (Z.dQ 0 iE U U U)<|Q.on (Z.call U U (λ_=>JC _ h1 htx.keys _))<|Q.on (Z.not U)<|Q.on (Z.pick U U)<|Q.on (Z.pick U U)<|Q.pk U U<|Q.nt<|?_
 refine S.cB U (λYS=>?_) (λYS=>?_)
 refine Q.rg<|Q.as U<|Q.nt<|UW.ret<|UQ.aj<|S.bG (λ_=>au U U)<|?_
 focus (rw[yf (by rw[uR (by omega)];simp_all)];done)
 refine UW.skip<|?_
 refine S.fin ⟨rfl,trivial⟩ (.refl _) (by rw[uR (by omega)];simp_all;done)
 refine S.cut [(1,.ptr p1 0)] [(p1,.box 27 (aN (.mk k n t ks vs)))] (¬(k<4/\0<vs.length)) ?_ (λhJ4=>?_)
 refine Q.rg<|Q.fa eO U<|Q.lc 0 bC U U U<|Q.bi U U U<|Q.mv U<|?_
 refine S.tD 98 (λhc98=>?_) (λhc98=>?_)
 refine Q.on (Z.fa bQ U)<|Q.on (Z.dQ 0 dm U U U)<|Q.on (Z.iy bR U)<|Q.on (Z.bi U U U)<|Q.pk U U<|Q.nt<|?_
 refine S.cD U (λXi=>?_) (λXi=>?_)
 refine Q.rg<|Q.as U<|Q.nt<|UW.ret<|UQ.aj<|S.bG (λ_=>au U U)<|?_
 focus (rw[Mr (by omega) (by omega)];done)
 refine UW.skip<|?_
 refine S.fin ⟨rfl,trivial⟩ (.refl _) (by omega)
 refine Q.of<|Q.of<|Q.of<|Q.of<|Q.pk U U<|Q.nt<|S.cF U U<|UW.skip<|?_
 refine S.fin ⟨rfl,trivial⟩ (.refl _) (by omega)
 refine S.sq<|Q.rg<|Q.as U<|Q.nt<|UW.block<|S.loop (λj:Nat=>[(3,.v (.int .i64 (j:Int))),(1,.ptr p1 0)]) (λ_=>[(p1,.box 27 (aN (.mk k n t ks vs)))]) (λj=>j<=vs.length/\∀(i:Nat) (h:i<vs.length),i<j->gN vs[i]=true) (λj=>vs.length-j) 0 ⟨Nat.zero_le _,λi _ h=>absurd h (by omega)⟩ ⟨rfl,rfl,trivial⟩ (.refl _)<|?_
 rintro j ⟨hj,hjj⟩
 by_cases hlt:j<vs.length
 ·have hgl:=jh vs j hlt
  have hrec:=λH=>ih _ (List.getElem_mem hlt) (htx.vals _ (List.getElem_mem hlt)) H
  cases hR:gN vs[j] with
  |true=>
   refine S.sq<|Q.rg<|Q.mv U<|Q.fa bQ U<|Q.lc 0 dm U U U<|S.qu (Z.iy bR U)<|Q.bi U U U<|Q.nt<|S.cT U (decide_eq_true (by omega))<|UW.skip<|UQ.then<|S.sq<|UW.block<|Q.rg<|Q.fa bQ U<|Q.lc 0 dm U U U<|Q.mv U<|S.qu (Z.ia bR U U (by omega) (by assumption) (by exact ak _))<|?_
   refine S.qu (Z.Cn ay U (ak _))<|S.qu (Z.eq (Z.call U U hrec) (by rw[hR]))<|?_
   refine S.qu (Z.not U)<|Q.nt<|S.cF U U<|UW.skip<|UQ.aI<|UQ.then<|S.rg<|Q.mv U<|S.qu (Z.add (r:=((j+1:Nat):Int)) U U (IntWalk.i64_in _ (by omega)))<|Q.as U<|US.nil<|?_
   refine S.back _ ⟨rfl,rfl,trivial⟩ (.refl _) ?_ (by omega)
   refine⟨by omega,λi h3 h4=>?_⟩
   by_cases hij:i=j
   ·subst hij;exact hR
   ·exact hjj i h3 (by omega)
  |false=>
   refine S.sq<|Q.rg<|Q.mv U<|Q.fa bQ U<|Q.lc 0 dm U U U<|S.qu (Z.iy bR U)<|Q.bi U U U<|Q.nt<|S.cT U (decide_eq_true (by omega))<|UW.skip<|UQ.then<|S.sq<|UW.block<|Q.rg<|Q.fa bQ U<|Q.lc 0 dm U U U<|Q.mv U<|S.qu (Z.ia bR U U (by omega) (by assumption) (by exact ak _))<|?_
   refine S.qu (Z.Cn ay U (ak _))<|S.qu (Z.eq (Z.call U U hrec) (by rw[hR]))<|?_
   refine S.qu (Z.not U)<|Q.nt<|S.cT U U<|Q.rg<|Q.as U<|Q.nt<|UW.ret<|UQ.az<|UQ.aj<|UQ.aj<|UQ.az<|UQ.aj<|S.bG (λ_=>au U U)<|?_
   focus (rw[Ms (JF hlt hR)];done)
 ·refine S.sq<|Q.rg<|Q.mv U<|Q.fa bQ U<|Q.lc 0 dm U U U<|S.qu (Z.iy bR U)<|Q.bi U U U<|Q.nt<|S.cF U (decide_eq_false (by omega))<|UW.exit<|UQ.pass<|UQ.pass<|UQ.here<|UQ.then<|Q.rg<|Q.as U<|Q.nt<|UW.ret<|S.bG (λ_=>au U U)<|?_
  focus (rw[Mt YL.1 YL.2.1 YL.2.2 hJ2 hJ3 hJ4 (GV λi hi=>hjj i hi (by omega))];done)
end Go.Proofs.YtbooeongacgnbaaGreatDoor
end
