/- A part of the proof. -/
import Derived.Test.YtbooeongacgnbaaGreatDoorMw38
import Derived.Test.YtbooeongacgnbaaGreatDoorMw28
set_option maxRecDepth 100000
set_option maxHeartbeats 4000000
set_option linter.unusedSectionVars false
set_option linter.unusedVariables false
set_option linter.unusedSimpArgs false
section
namespace Go.Proofs.YtbooeongacgnbaaGreatDoor
open Go Go.gW Go.RowKit
theorem KG(s:ByteArray)(hs:s.size<=1000000)(p:Nat){ga gb:Addr}:∀f q d,q<=s.size->d<=32->4*(s.size-q)+4<=f->TQ ga gb p s d f q:=by
 intro f
 induction f using Nat.strongRecOn with
 |ind f ih=>
  intro q d hq hd hf G hG aD
  obtain⟨f,rfl⟩:∃f',f=f'+1:=⟨f-1,by omega⟩
  rw[fQ]
  by_cases hb:bT s q 91=true\/bT s q 123=true
  ·rw[if_pos hb]
   have hlt:q<s.size:=hb.elim bP bP
   by_cases hdd:32<=d
   ·rw[if_pos hdd]
    cases h1:bT s q 91 with
    |true=>exact yY p s q d hs hq h1 _ G hG (λG hG hd'=>BB p s q d hs hq hdd hd _ _ _ G hG hd') aD
    |false=>exact Bz p s q d hs hq h1 (hb.resolve_left (by rw[h1];decide)) _ G hG (λG hG hd'=>BB p s q d hs hq hdd hd _ _ _ G hG hd') aD
   ·rw[if_neg hdd]
    obtain⟨f,rfl⟩:∃f',f=f'+1:=⟨f-1,by omega⟩
    have hV:∀f',f'<f->∀x,q<x->x<=s.size->4*(s.size-x)+4<=f'->TQ ga gb p s (d+1) f' x:=λf' h1 x h2 h3 h4=>ih f' (by omega) x (d+1) h3 (by omega) h4
    cases h1:bT s q 91 with
    |true=>
     rw[nZ h1 (show(91:Int)≠123 by decide)]
     exact yY p s q d hs hq h1 _ G hG (λG hG hd'=>Iq p s q d f hs hlt (by omega) (by omega) hV G hG hd') aD
    |false=>
     have h2:=hb.resolve_left (by rw[h1];decide)
     rw[h2]
     exact Bz p s q d hs hq h1 h2 _ G hG (λG hG hd'=>Ir p s q d f hs hlt (by omega) (by omega) hV G hG hd') aD
  ·rw[if_neg hb]
   have h1:bT s q 91=false:=by
    cases h:bT s q 91 with
    |false=>rfl
    |true=>exact absurd (.inl h) hb
   have h2:bT s q 123=false:=by
    cases h:bT s q 123 with
    |false=>rfl
    |true=>exact absurd (.inr h) hb
   cases h3:bT s q 34 with
   |true=>
    rw[if_pos U]
    cases hu:gV (s.extract q s.size) with
    |none=>exact KC p s q d hs hq h1 h2 h3 hu G hG aD
    |some tn=>
     obtain⟨t,n⟩:=tn
     exact Im p s q d hs hq h1 h2 h3 t n hu G hG aD
   |false=>
    rw[if_neg (by decide)]
    by_cases h4:bT s q 45=true\/0<aT s q
    ·rw[if_pos h4]
     exact KD p s q d hs hq h1 h2 h3 h4 G hG aD
    ·rw[if_neg h4]
     have h5:bT s q 45=false:=by
      cases h:bT s q 45 with
      |false=>rfl
      |true=>exact absurd (.inl h) h4
     exact Io p s q d hs hq h1 h2 h3 h5 (by omega) G hG aD
def KH(s:ByteArray):PR:=match fQ s (4*s.size+8) (aC s 0) 0 with
 | .err e q=> .err e q
 | .ok q v=>if aC s q<s.size then .err 11 (aC s q) else .ok (aC s q) v
theorem Wm(p:Nat)(s:ByteArray)(hs:s.size<=1000000)(e:Int)(q:Nat)(G:Hp){ga gb:Addr}(hG:bO ga gb G)
 (hv:∀G,bO ga gb G->aK G [bN p s (aC s 0) 0]->F Tryz.prog 55 [.ptr p 0] (aB G [bN p s (aC s 0) 0]) (jc p s 0 G (.err e q))) (hd:aK G [bN p s 0 0]):F Tryz.prog 36 [.ptr p 0] (aB G [bN p s 0 0]) (jc p s 0 G (.err e q)):=by
 have hb0:=λG hd=>bX p s 0 0 hs (Nat.zero_le _) G hd
 generalize aC s 0=c at*
 unfold bN at hd hv⊢
 refine aA (n:=26) (H0:=G) (M:=[(p,.box 60 (gu s 0 0))]) Tryz.func36 (by kernel_rfl) U (by rw[Tryz.ntmps36];rfl) hd<|?_
 refine Q.rg<|S.dd<|D.al z27 U U U λp2=>Q.as U<|Q.nt<|Q.rg<|Q.mv U<|S.dd<|D.Sm (n0:=[(p,.box 60 (gu s c 0))]) (.cons 1 U .nil) U U (λH hS hD=>hb0 H hD)<|Q.nt<|Q.rg<|Q.mv U<|S.dd<|D.oJ (.cons 0 U .nil) U U (λH hS hD=>hv H (hG.mono hS) hD)<|?_
 (rintro _ _ ⟨⟨v0,v1,v2,v3,v4⟩,d',rfl,rfl⟩;unfold bN)
 refine Q.mv U<|S.qu (Z.ex U U)<|S.qu (Z.ex U U)<|S.dd<|D.al z27 U U U λp4=>S.s<|D.st 0 ay U U U U U U U U λ_=>Q.as U<|Q.nt<|S.sq<|Q.rg<|Q.mv U<|S.qu (Z.inT U)<|Q.nt<|S.cT U U<|Q.rg<|S.qu (Z.bg 0 ay U U U)<|Q.mv U<|S.s<|D.st 2 ay U U U U U U U U λ_=>Q.as U<|Q.nt<|UW.ret<|UQ.aj<|?_
 exact bD [(p,.box 60 (gu s q d'))] (λhd=>ax U (av (k:=2) hd U U bH bI) (Y U)) (by repeat (first|exact List.nil_sublist _|refine .cons_cons _ ?_|refine .cons _ ?_)) λhd=>⟨_,hd,rfl,(.mk v0 v1 v2 v3 v4),d',rfl,rfl⟩
theorem Sw(s:ByteArray)(q:Nat)(h:¬q<s.size):s.extract q s.size=⟨#[]⟩:=by
 apply lH
 rw[Bb]
 exact List.eq_nil_of_length_eq_zero (by rw[iq,ByteArray.size_extract];omega)
theorem Wn(p:Nat)(s:ByteArray)(hs:s.size<=1000000)(q:Nat)(v:V)(hq:q<=s.size)(hlt:aC s q<s.size)(G:Hp){ga gb:Addr}(hG:bO ga gb G)
 (hv:∀G,bO ga gb G->aK G [bN p s (aC s 0) 0]->F Tryz.prog 55 [.ptr p 0] (aB G [bN p s (aC s 0) 0]) (jc p s 0 G (.ok q v))) (hd:aK G [bN p s 0 0]):F Tryz.prog 36 [.ptr p 0] (aB G [bN p s 0 0]) (jc p s 0 G (.err 11 (aC s q))):=by
 have hb1:=λG hd=>bX p s q 0 hs hq G hd
 have hc1:=aX s q hq
 have hre:=cz p s (aC s q) 0 hs hc1
 obtain⟨v0,v1,v2,v3,v4⟩:=v
 have hb0:=λG hd=>bX p s 0 0 hs (Nat.zero_le _) G hd
 generalize aC s 0=c at*
 have hne:=Zf (a:=s.extract (aC s q) s.size) (by rw[ext_size];omega)
 have hw:=dK p s (aC s q) 0 11
 generalize s.extract (aC s q) s.size=u at*
 generalize aC s q=c1 at*
 unfold bN at hd hv⊢
 refine aA (n:=26) (H0:=G) (M:=[(p,.box 60 (gu s 0 0))]) Tryz.func36 (by kernel_rfl) U (by rw[Tryz.ntmps36];rfl) hd<|?_
 refine Q.rg<|S.dd<|D.al z27 U U U λp2=>Q.as U<|Q.nt<|Q.rg<|Q.mv U<|S.dd<|D.Sm (n0:=[(p,.box 60 (gu s c 0))]) (.cons 1 U .nil) U U (λH hS hD=>hb0 H hD)<|Q.nt<|Q.rg<|Q.mv U<|S.dd<|D.oJ (.cons 0 U .nil) U U (λH hS hD=>hv H (hG.mono hS) hD)<|?_
 (rintro _ _ ⟨rfl,rfl⟩;unfold bN)
 refine Q.mv U<|S.qu (Z.ex U U)<|S.qu (Z.ex U U)<|S.dd<|D.al z27 U U U λp4=>S.s<|D.st 0 ay U U U U U U U U λ_=>Q.as U<|Q.nt<|S.sq<|Q.rg<|Q.mv U<|S.qu (Z.BK U)<|Q.nt<|S.cF U U<|UW.skip<|UQ.then<|Q.rg<|Q.mv U<|S.dd<|D.Sm (n0:=[(p,.box 60 (gu s c1 0))]) (.cons 1 U .nil) U U (λH hS hD=>hb1 H hD)<|Q.nt<|S.sq<|Q.rg<|Q.mv U<|S.qu (Z.aQ U U (λhd=>hre _ (hd.at_ (k:=0) U)))<|S.qu (Z.tT (Z.bs U U U) hne)<|Q.nt<|S.cT U U<|S.sq<|?_
 refine' UW.dC (by kernel_rfl) [0,0,2,7,15] [some 22,some 23,some 24,none,none] [some (22,_),some (23,_),some (24,_),none,none] [3,4] [0,2] U (by decide) (by decide) (I.held (by decide) U U ?gY (I.free (by decide) U U ?gZ (I.held (by decide) U U ?iK (I.skip (I.skip I.nil))))) ?oD
 case gY=>exact Z.bg 1 ay rfl rfl rfl
 case gZ=>(intro _;exact Z.mv rfl)
 case iK=>exact Z.aQ rfl rfl (λhd=>hw _ (hd.at_ (k:=0) rfl))
 refine CH.aV U U<|D.st 2 ay U U U U U U U U λ_=>CH.cons U U (by decide)<|D.qu (Z.as U)<|CH.nil<|?_
 simp only[app,bV]
 refine UQ.then<|UW.ret<|UQ.aj<|?_
 exact bD [(p,.box 60 (gu s c1 0))] (λhd=>ax U (av (k:=2) hd U U bH bI) (Y U)) (by repeat (first|exact List.nil_sublist _|refine .cons_cons _ ?_|refine .cons _ ?_)) λhd=>⟨_,hd,rfl,(.mk v0 v1 v2 v3 v4),0,rfl,rfl⟩
theorem Wo(p:Nat)(s:ByteArray)(hs:s.size<=1000000)(q:Nat)(v:V)(hq:q<=s.size)(hlt:¬aC s q<s.size)(G:Hp){ga gb:Addr}(hG:bO ga gb G)
 (hv:∀G,bO ga gb G->aK G [bN p s (aC s 0) 0]->F Tryz.prog 55 [.ptr p 0] (aB G [bN p s (aC s 0) 0]) (jc p s 0 G (.ok q v))) (hd:aK G [bN p s 0 0]):F Tryz.prog 36 [.ptr p 0] (aB G [bN p s 0 0]) (jc p s 0 G (.ok (aC s q) v)):=by
 have hb1:=λG hd=>bX p s q 0 hs hq G hd
 have hc1:=aX s q hq
 have hre:=cz p s (aC s q) 0 hs hc1
 obtain⟨v0,v1,v2,v3,v4⟩:=v
 have hb0:=λG hd=>bX p s 0 0 hs (Nat.zero_le _) G hd
 generalize aC s 0=c at*
 rw[Sw s _ hlt] at hre
 generalize aC s q=c1 at*
 unfold bN at hd hv⊢
 refine aA (n:=26) (H0:=G) (M:=[(p,.box 60 (gu s 0 0))]) Tryz.func36 (by kernel_rfl) U (by rw[Tryz.ntmps36];rfl) hd<|?_
 refine Q.rg<|S.dd<|D.al z27 U U U λp2=>Q.as U<|Q.nt<|Q.rg<|Q.mv U<|S.dd<|D.Sm (n0:=[(p,.box 60 (gu s c 0))]) (.cons 1 U .nil) U U (λH hS hD=>hb0 H hD)<|Q.nt<|Q.rg<|Q.mv U<|S.dd<|D.oJ (.cons 0 U .nil) U U (λH hS hD=>hv H (hG.mono hS) hD)<|?_
 (rintro _ _ ⟨rfl,rfl⟩;unfold bN)
 refine Q.mv U<|S.qu (Z.ex U U)<|S.qu (Z.ex U U)<|S.dd<|D.al z27 U U U λp4=>S.s<|D.st 0 ay U U U U U U U U λ_=>Q.as U<|Q.nt<|S.sq<|Q.rg<|Q.mv U<|S.qu (Z.BK U)<|Q.nt<|S.cF U U<|UW.skip<|UQ.then<|Q.rg<|Q.mv U<|S.dd<|D.Sm (n0:=[(p,.box 60 (gu s c1 0))]) (.cons 1 U .nil) U U (λH hS hD=>hb1 H hD)<|Q.nt<|S.sq<|Q.rg<|Q.mv U<|S.qu (Z.aQ U U (λhd=>hre _ (hd.at_ (k:=0) U)))<|S.qu (Z.bs U U U)<|Q.nt<|?_
 refine S.cO U (λhc21=>?_) (λhc21=>?_)
 contradiction
 refine UW.skip<|UQ.then<|Q.rg<|S.qu (Z.bg 1 ay U U U)<|S.s<|D.st 2 ay U U U U U U U U λ_=>Q.as U<|Q.nt<|UW.ret<|?_
 exact bD [(p,.box 60 (gu s c1 0))] (λhd=>ax U (av (k:=2) hd U U bH bI) (Y U)) (by repeat (first|exact List.nil_sublist _|refine .cons_cons _ ?_|refine .cons _ ?_)) λhd=>⟨_,hd,rfl,rfl,rfl⟩
theorem Dw(p:Nat)(s:ByteArray)(hs:s.size<=1000000)(G:Hp){ga gb:Addr}(hG:bO ga gb G)(hd:aK G [bN p s 0 0]):F Tryz.prog 36 [.ptr p 0] (aB G [bN p s 0 0]) (jc p s 0 G (KH s)):=by
 have hc:=aX s 0 (Nat.zero_le _)
 have hv:=KG s hs p (ga:=ga) (gb:=gb) (4*s.size+8) (aC s 0) 0 hc (by omega) (by omega)
 unfold TQ at hv
 unfold KH
 cases hr:fQ s (4*s.size+8) (aC s 0) 0 with
 |err e q=>rw[hr] at hv;exact Wm p s hs e q G hG hv hd
 |ok q v=>
  rw[hr] at hv
  have hq:=((kM s (4*s.size+8)).1 _ _ _ _ hc hr).2
  dsimp only
  by_cases hlt:aC s q<s.size
  ·rw[if_pos hlt];exact Wn p s hs q v hq hlt G hG hv hd
  ·rw[if_neg hlt];exact Wo p s hs q v hq hlt G hG hv hd
def BC(r:V×Int×Int):AV:=.dH [.agg (aN r.1),.v (.int .u16 r.2.1),.v (.int .i64 r.2.2)]
theorem KI:(Tryz.prog.info? 66).map (·.zero)=some (some (.agg (List.toArray [.int .u16 0,.int .i64 0]))):=by kernel_rfl
theorem Pp(s:ByteArray)(hs:65536<s.size)(H:Hp):F Tryz.prog 19 [.v (.string s)] H (bn H (BC (zeroV,3,0))):=by
 refine aA (n:=41) (H0:=H) (M:=[]) Tryz.func19 (by kernel_rfl) U (by rw[Tryz.ntmps19];rfl) .nil<|?_
 refine Q.rg<|S.dd<|D.al z27 U U U λp2=>Q.as U<|Q.as U<|Q.nt<|S.sq<|Q.rg<|Q.mv U<|S.qu (Z.fC Tryz.underlying9 U)<|Q.bi U U U<|Q.nt<|S.cT U (decide_eq_true (by omega))<|Q.rg<|S.qu (Z.bd [] dh U U U U U U)<|S.s<|D.st 0 ay U U U U U U U U λ_=>Q.as U<|Q.as U<|Q.nt<|UW.ret<|UQ.aj<|S.bG (λhd=>jS U (by decide) U (bL (av (k:=0) hd U U bH bI) (bL (Y U) (bL (Y U) (je)))))<|?_
 rfl
theorem Pq(s:ByteArray)(hs:s.size<=65536)(hck:0<=nu s)(H:Hp):F Tryz.prog 19 [.v (.string s)] H (bn H (BC (zeroV,10,nu s))):=by
 have hc:∀H,F Tryz.prog 35 [.v (.string s)] H (bn H (.v (.int .i64 (nu s)))):=λH=>nY s (by omega) H
 generalize nu s=ck at*
 refine aA (n:=41) (H0:=H) (M:=[]) Tryz.func19 (by kernel_rfl) U (by rw[Tryz.ntmps19];rfl) .nil<|?_
 refine Q.rg<|S.dd<|D.al z27 U U U λp2=>Q.as U<|Q.as U<|Q.nt<|S.sq<|Q.rg<|Q.mv U<|S.qu (Z.fC Tryz.underlying9 U)<|Q.bi U U U<|Q.nt<|S.cF U (decide_eq_false (by omega))<|UW.skip<|UQ.then<|S.sq<|Q.rg<|Q.mv U<|S.qu (Z.call U U (λH=>hc H))<|Q.as U<|Q.nt<|Q.rg<|Q.mv U<|Q.bi U U U<|Q.nt<|S.cT U (decide_eq_true (by omega))<|Q.rg<|S.qu (Z.bd [] dh U U U U U U)<|Q.mv U<|S.s<|D.st 0 ay U U U U U U U U λ_=>Q.as U<|Q.as U<|Q.nt<|UW.ret<|UQ.aj<|S.bG (λhd=>jS U (by decide) U (bL (av (k:=0) hd U U bH bI) (bL (Y U) (bL (Y U) (je)))))<|?_
 rfl
theorem Ps(s:ByteArray)(hs:s.size<=65536)(hck:nu s<0)(e:Int)(q:Nat)(ha:KH s=.err e q)(H:Hp){ga gb:Addr}(hG:bO ga gb H):F Tryz.prog 19 [.v (.string s)] H (bn H (BC (zeroV,e,q))):=by
 have hc:∀H,F Tryz.prog 35 [.v (.string s)] H (bn H (.v (.int .i64 (nu s)))):=λH=>nY s (by omega) H
 have hv:=λp G hG hd=>Dw p s (by omega) G (ga:=ga) (gb:=gb) hG hd
 rw[ha] at hv
 unfold bN at hv
 generalize nu s=ck at*
 refine aA (n:=41) (H0:=H) (M:=[]) Tryz.func19 (by kernel_rfl) U (by rw[Tryz.ntmps19];rfl) .nil<|?_
 refine Q.rg<|S.dd<|D.al z27 U U U λp2=>Q.as U<|Q.as U<|Q.nt<|S.sq<|Q.rg<|Q.mv U<|S.qu (Z.fC Tryz.underlying9 U)<|Q.bi U U U<|Q.nt<|S.cF U (decide_eq_false (by omega))<|UW.skip<|UQ.then<|S.sq<|Q.rg<|Q.mv U<|S.qu (Z.call U U (λH=>hc H))<|Q.as U<|Q.nt<|Q.rg<|Q.mv U<|Q.bi U U U<|Q.nt<|S.cF U (decide_eq_false (by omega))<|UW.skip<|UQ.then<|Q.rg<|Q.mv U<|S.qu (Z.bd [0] XC U U U U U U)<|S.dd<|D.box U U U λZj=>Q.as U<|Q.nt<|Q.rg<|Q.mv U<|S.dd<|D.oJ (.cons 0 U .nil) U U (λH hS hD=>hv Zj H (hG.mono hS) hD)<|?_
 (rintro _ _ ⟨⟨v0,v1,v2,v3,v4⟩,d',rfl,rfl⟩;unfold bN)
 refine Q.mv U<|S.qu (Z.ex U U)<|S.qu (Z.ex U U)<|S.dd<|D.al z27 U U U λp7=>S.s<|D.st 0 ay U U U U U U U U λ_=>Q.as U<|Q.nt<|S.sq<|Q.rg<|Q.mv U<|S.qu (Z.tai U)<|Q.mv U<|S.qu (Z.ex U U)<|S.qu (Z.ex U U)<|S.dd<|D.al z66 U U U λp9=>S.s<|D.st 0 Xy U U U U U U U U λ_=>Q.as U<|Q.nt<|Q.rg<|Q.mv U<|Q.nt<|S.cT U U<|S.sq<|?_
 refine' UW.gF (by kernel_rfl) [0,1,2,3] [0,0,2,0,8,1,39,127] [some 35,some 36,some 37,some 38,some 39,none,none,none] [some (35,_),some (36,_),some (37,_),some (38,_),some (39,_),none,none,none] [5,6,7] [] U (by decide) (by decide) (I.free (by decide) U U ?uX (I.free (by decide) U U ?uY (I.kept (by decide) U U ?AY (I.free (by decide) U U ?AZ (I.kept (by decide) U U ?A7 (I.skip (I.skip (I.skip I.nil)))))))) ?JY
 case uX=>(intro _;exact Z.bd [] dh rfl rfl rfl rfl rfl rfl)
 case uY=>(intro _;exact Z.fa XA rfl)
 case AY=>(intro _ hK;exact Z.kc 0 hK Y8 rfl rfl rfl)
 case AZ=>(intro _;exact Z.fa XB rfl)
 case A7=>(intro _ hK;exact Z.kc 0 hK bC rfl rfl rfl)
 refine CH.aV U U ?_ (.c 0 U (.c 1 U (.c 2 U (.c 3 U .n))))
 refine D.st 3 ay U U U U U U U U λ_=>?_
 refine CH.cons U U (by decide) ?_ (.c 0 U (.c 1 U (.c 2 U (.c 3 U .n))))
 refine D.qu (Z.as U)<|?_
 refine CH.cons U U (by decide) ?_ (.c 0 U (.c 1 U (.c 2 U (.c 3 U .n))))
 refine D.qu (Z.as U)<|?_
 refine CH.nil ?_ (.c 0 U (.c 1 U (.c 2 U (.c 3 U .n))))
 simp only[app,bV]
 refine UQ.then<|UW.ret<|UQ.aj<|S.bG (λhd=>jS U (by decide) U (bL (av (k:=3) hd U U bH bI) (bL (Y U) (bL (Y U) (je)))))<|?_
 rfl
theorem Pt(s:ByteArray)(hs:s.size<=65536)(hck:nu s<0)(v:V)(q:Nat)(ha:KH s=.ok q v)(H:Hp){ga gb:Addr}(hG:bO ga gb H):F Tryz.prog 19 [.v (.string s)] H (bn H (BC (v,0,0))):=by
 have hc:∀H,F Tryz.prog 35 [.v (.string s)] H (bn H (.v (.int .i64 (nu s)))):=λH=>nY s (by omega) H
 have hv:=λp G hG hd=>Dw p s (by omega) G (ga:=ga) (gb:=gb) hG hd
 rw[ha] at hv
 unfold bN at hv
 generalize nu s=ck at*
 obtain⟨v0,v1,v2,v3,v4⟩:=v
 refine aA (n:=41) (H0:=H) (M:=[]) Tryz.func19 (by kernel_rfl) U (by rw[Tryz.ntmps19];rfl) .nil<|?_
 refine Q.rg<|S.dd<|D.al z27 U U U λp2=>Q.as U<|Q.as U<|Q.nt<|S.sq<|Q.rg<|Q.mv U<|S.qu (Z.fC Tryz.underlying9 U)<|Q.bi U U U<|Q.nt<|S.cF U (decide_eq_false (by omega))<|UW.skip<|UQ.then<|S.sq<|Q.rg<|Q.mv U<|S.qu (Z.call U U (λH=>hc H))<|Q.as U<|Q.nt<|Q.rg<|Q.mv U<|Q.bi U U U<|Q.nt<|S.cF U (decide_eq_false (by omega))<|UW.skip<|UQ.then<|Q.rg<|Q.mv U<|S.qu (Z.bd [0] XC U U U U U U)<|S.dd<|D.box U U U λZj=>Q.as U<|Q.nt<|Q.rg<|Q.mv U<|S.dd<|D.oJ (.cons 0 U .nil) U U (λH hS hD=>hv Zj H (hG.mono hS) hD)<|?_
 (rintro _ _ ⟨rfl,rfl⟩;unfold bN)
 refine Q.mv U<|S.qu (Z.ex U U)<|S.qu (Z.ex U U)<|S.dd<|D.al z27 U U U λp7=>S.s<|D.st 0 ay U U U U U U U U λ_=>Q.as U<|Q.nt<|S.sq<|Q.rg<|Q.mv U<|S.qu (Z.tan (zu:=.agg [.v (.int .u16 0),.v (.int .i64 0)]) U KI (.inr ⟨_,rfl,rfl⟩))<|Q.mv U<|S.qu (Z.ex U U)<|S.qu (Z.ex U U)<|S.dd<|D.al z66 U U U λp9=>S.s<|D.st 0 Xy U U U U U U U U λ_=>Q.as U<|Q.nt<|Q.rg<|Q.mv U<|Q.nt<|S.cF U U<|UW.skip<|UQ.then<|Q.rg<|S.qu (Z.bg 1 ay U U U)<|S.s<|D.st 3 ay U U U U U U U U λ_=>Q.as U<|Q.as U<|Q.nt<|UW.ret<|S.bG (λhd=>jS U (by decide) U (bL (av (k:=3) hd U U bH bI) (bL (Y U) (bL (Y U) (je)))))<|?_
 rfl
theorem og(s:ByteArray)(H:Hp){ga gb:Addr}(hG:bO ga gb H):F Tryz.prog 19 [.v (.string s)] H (bn H (BC (eT s))):=by
 unfold eT
 by_cases h1:65536<s.size
 ·rw[if_pos h1];exact Pp s h1 H
 ·rw[if_neg h1]
  by_cases h2:0<=nu s
  ·rw[if_pos h2];exact Pq s (by omega) h2 H
  ·rw[if_neg h2]
   cases ha:KH s with
   |err e q=>
    have h:=Ps s (by omega) (by omega) e q ha H hG
    unfold KH at ha
    cases hr:fQ s (4*s.size+8) (aC s 0) 0 with
    |err e1 q1=>
     rw[hr] at ha
     cases ha
     exact h
    |ok q1 v1=>
     rw[hr] at ha
     dsimp only at ha⊢
     split at ha
     ·rename_i hlt
      cases ha
      rw[if_pos hlt]
      exact h
     ·cases ha
   |ok q v=>
    have h:=Pt s (by omega) (by omega) v q ha H hG
    unfold KH at ha
    cases hr:fQ s (4*s.size+8) (aC s 0) 0 with
    |err e1 q1=>
     rw[hr] at ha
     cases ha
    |ok q1 v1=>
     rw[hr] at ha
     dsimp only at ha⊢
     split at ha
     ·cases ha
     ·rename_i hlt
      cases ha
      rw[if_neg hlt]
      exact h
end Go.Proofs.YtbooeongacgnbaaGreatDoor
end
