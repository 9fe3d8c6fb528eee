/- A part of the proof. -/
import Derived.Test.YtbooeongacgnbaaGreatDoorMw30
set_option maxRecDepth 100000
set_option maxHeartbeats 4000000
set_option linter.unusedSectionVars false
set_option linter.unusedVariables false
set_option linter.unusedSimpArgs false
section
namespace Go.Proofs.YtbooeongacgnbaaGreatDoor
open Go Go.gW Go.RowKit
theorem Ia(n:Int)(H:Hp):F Tryz.prog 109 [.v (.int .i64 n)] H (bn H (.agg (aN (qO n)))):=by
 refine aA (n:=5) (H0:=H) (M:=[]) Tryz.func109 (by kernel_rfl) U (by rw[Tryz.ntmps109];rfl) .nil<|?_
 refine Q.rg<|S.dd<|D.al z27 U U U λp2=>Q.nt<|Q.rg<|Q.mv U<|S.qu (Z.bd [0,1] dh U U U U U U)<|S.s<|D.st 0 ay U U U U U U U U λ_=>Q.nt<|UW.ret<|S.bG (λhd=>di (k:=0) hd U U U bH bI)<|?_
 rfl
def jq:ByteArray:=⟨#[45,48]⟩
def MU:ByteArray:=⟨#[46,101,69]⟩
theorem iD{ga gb:Addr}{G:Hp}(hG:bO ga gb G):∀ρ w,dG ρ G w->w.cell? ⟨1,0,none⟩=some (.iface 204 (.pointer (some ga))):=λρ w hh=>by
 have h:=World.var?_cell (P:=Tryz.prog) (n:= "strconv.ErrSyntax") (g:=1) (by kernel_rfl) (hG.facts hh).Yf 0
 exact h
structure xu(s:ByteArray)(q e:Nat)(x:Int)(c0:Int)(b0:Bool):Prop where
 hs:s.size<=1000000
 hq:q<=s.size
 e1:1<=e
 e2:q+e<=s.size
 hx:∀H,F Tryz.prog 104 [.v (.string ((s.extract q s.size).extract 1 (s.extract q s.size).size)),.lW 105 []] H (bn H (.v (.int .i64 x)))
 hx2:(x+1=(e:Int)/\q+e<s.size)\/(x= -1/\q+e=s.size)
 hc0:aO (s.extract q s.size) 0=c0
 hb0:Lib.hasPrefix (s.extract q s.size).data.toList jq.data.toList=b0
theorem MV(p:Nat)(s:ByteArray)(q d e:Nat)(x c0:Int)(b0:Bool)(hw:xu s q e x c0 b0)(hE:x+1=(e:Int)/\q+e<s.size)(nv:Int)(er:AV)(G:Hp){ga gb:Addr}(hG:bO ga gb G)(hpi:∀H,bO ga gb H->F Tryz.prog 106 [.v (.string ((s.extract q s.size).extract 0 e)),.v (.int .i64 10),.v (.int .i64 64)] H (bn H (.dH [.v (.int .i64 nv),er])))(his:∀H,bO ga gb H->F Tryz.prog 107 [er,.v (.iface 204 (.pointer (some ga)))] H (bn H (.v (.bool true))))(hd:aK G [bN p s q d]):F Tryz.prog 83 [.ptr p 0] (aB G [bN p s q d]) (RO (.dH [.agg (aN zeroV),F5 11 q]) [bN p s q d] G):=by
 obtain⟨hs,hq,he1,he2,hx,_,hc0,hb0⟩:=hw
 obtain⟨hx1,hx2⟩:=hE
 have hr:=cz p s q d hs hq
 have hz:(s.extract q s.size).size=s.size-q:=by rw[ByteArray.size_extract];omega
 have qQ:=bW (s.extract q s.size) jq
 rw[hb0] at qQ
 have lI:=iD hG
 have hw:=dK p s q d 11
 generalize s.extract q s.size=u at*
 unfold bN at hd⊢
 refine aA (n:=72) (H0:=G) (M:=[(p,.box 60 (gu s q d))]) Tryz.func83 (by kernel_rfl) U (by rw[Tryz.ntmps83];rfl) hd<|?_
 refine Q.rg<|S.dd<|D.al z27 U U U λp2=>Q.as U<|Q.nt<|Q.rg<|Q.mv U<|S.qu (Z.aQ U U (λhd=>hr _ (hd.at_ (k:=1) U)))<|Q.as U<|Q.nt<|Q.rg<|Q.mv U<|S.qu (Z.slt (p:=u) (m:=1) (m':=u.size) Tryz.underlying9 U (.lo U) (by omega) (by omega))<|S.qu (Z.call U U (λH=>hx H))<|S.qu (Z.add (r:=(e:Int)) U U (Eq.trans (IntWalk.i64_in _ (by omega)) (by omega)))<|Q.as U<|Q.nt<|S.sq<|Q.rg<|Q.mv U<|Q.bi U U U<|Q.nt<|S.cF U (bf (by omega))<|UW.skip<|UQ.then<|Q.rg<|Q.mv U<|Q.mv U<|S.qu (Z.slt (p:=u) (m:=0) (m':=e) Tryz.underlying9 U (.hi U) (by omega) (by omega))<|S.qu (Z.bU U U (λH hS=>hpi H (hG.mono hS)))<|Q.mv U<|S.qu (Z.ex U U)<|S.qu (Z.ex U U)<|Q.as U<|Q.as U<|Q.nt<|S.sq<|UW.block<|S.sq<|Q.rg<|Q.mv U<|S.qu (Z.MF xW U lI)<|S.qu (Z.bU U U (λH hS=>his H (hG.mono hS)))<|Q.as U<|Q.nt<|S.cT U U<|UW.skip<|UQ.then<|S.cT U U<|Q.rg<|S.qu (Z.bd [] dh U U U U U U)<|Q.mv U<|?_
 refine S.qu (Z.aQ U U (λhd=>hw _ (hd.at_ (k:=1) U)))<|S.s<|D.st 0 ay U U U U U U U U λ_=>Q.as U<|Q.nt<|UW.ret<|UQ.az<|UQ.aj<|?_
 all_goals exact bD [_] (λhd=>ax U (av (k:=0) hd U U bH bI) (Y U)) (by repeat (first|exact List.Sublist.refl _|exact List.nil_sublist _|refine .cons_cons _ ?_|refine .cons _ ?_)) λhd=>⟨_,hd,rfl,rfl,rfl⟩
theorem MW(p:Nat)(s:ByteArray)(q d e:Nat)(x c0:Int)(b0:Bool)(hw:xu s q e x c0 b0)(hE:x= -1/\q+e=s.size)(nv:Int)(er:AV)(G:Hp){ga gb:Addr}(hG:bO ga gb G)(hpi:∀H,bO ga gb H->F Tryz.prog 106 [.v (.string ((s.extract q s.size).extract 0 e)),.v (.int .i64 10),.v (.int .i64 64)] H (bn H (.dH [.v (.int .i64 nv),er])))(his:∀H,bO ga gb H->F Tryz.prog 107 [er,.v (.iface 204 (.pointer (some ga)))] H (bn H (.v (.bool true))))(hd:aK G [bN p s q d]):F Tryz.prog 83 [.ptr p 0] (aB G [bN p s q d]) (RO (.dH [.agg (aN zeroV),F5 11 q]) [bN p s q d] G):=by
 obtain⟨hs,hq,he1,he2,hx,_,hc0,hb0⟩:=hw
 obtain⟨hx1,hx2⟩:=hE
 have hr:=cz p s q d hs hq
 have hz:(s.extract q s.size).size=s.size-q:=by rw[ByteArray.size_extract];omega
 have qQ:=bW (s.extract q s.size) jq
 rw[hb0] at qQ
 have lI:=iD hG
 have hw:=dK p s q d 11
 generalize s.extract q s.size=u at*
 unfold bN at hd⊢
 refine aA (n:=72) (H0:=G) (M:=[(p,.box 60 (gu s q d))]) Tryz.func83 (by kernel_rfl) U (by rw[Tryz.ntmps83];rfl) hd<|?_
 refine Q.rg<|S.dd<|D.al z27 U U U λp2=>Q.as U<|Q.nt<|Q.rg<|Q.mv U<|S.qu (Z.aQ U U (λhd=>hr _ (hd.at_ (k:=1) U)))<|Q.as U<|Q.nt<|Q.rg<|Q.mv U<|S.qu (Z.slt (p:=u) (m:=1) (m':=u.size) Tryz.underlying9 U (.lo U) (by omega) (by omega))<|S.qu (Z.call U U (λH=>hx H))<|S.qu (Z.add (r:=0) U U (Eq.trans (IntWalk.i64_in _ (by omega)) (by omega)))<|Q.as U<|Q.nt<|S.sq<|Q.rg<|Q.mv U<|Q.bi U U U<|Q.nt<|S.cT U (cZ (by omega))<|S.rg<|Q.mv U<|S.qu (Z.eq (u':=.v (.int .i64 ((e:Nat):Int))) (Z.fC Tryz.underlying9 U) (by rw[hz];congr 2;omega))<|?_
 refine Q.as U<|Q.nt<|Q.rg<|Q.mv U<|Q.mv U<|S.qu (Z.slt (p:=u) (m:=0) (m':=e) Tryz.underlying9 U (.hi U) (by omega) (by omega))<|S.qu (Z.bU U U (λH hS=>hpi H (hG.mono hS)))<|Q.mv U<|S.qu (Z.ex U U)<|S.qu (Z.ex U U)<|Q.as U<|Q.as U<|Q.nt<|S.sq<|UW.block<|S.sq<|Q.rg<|Q.mv U<|S.qu (Z.MF xW U lI)<|S.qu (Z.bU U U (λH hS=>his H (hG.mono hS)))<|Q.as U<|Q.nt<|S.cT U U<|UW.skip<|UQ.then<|S.cT U U<|Q.rg<|S.qu (Z.bd [] dh U U U U U U)<|Q.mv U<|S.qu (Z.aQ U U (λhd=>hw _ (hd.at_ (k:=1) U)))<|S.s<|D.st 0 ay U U U U U U U U λ_=>Q.as U<|Q.nt<|UW.ret<|UQ.az<|UQ.aj<|?_
 all_goals exact bD [_] (λhd=>ax U (av (k:=0) hd U U bH bI) (Y U)) (by repeat (first|exact List.Sublist.refl _|exact List.nil_sublist _|refine .cons_cons _ ?_|refine .cons _ ?_)) λhd=>⟨_,hd,rfl,rfl,rfl⟩
theorem MX(p:Nat)(s:ByteArray)(q d e:Nat)(x c0:Int)(b0:Bool)(hw:xu s q e x c0 b0)(hE:x+1=(e:Int)/\q+e<s.size)(nv:Int)(er:AV)(h11:b0=true)(G:Hp){ga gb:Addr}(hG:bO ga gb G)(hpi:∀H,bO ga gb H->F Tryz.prog 106 [.v (.string ((s.extract q s.size).extract 0 e)),.v (.int .i64 10),.v (.int .i64 64)] H (bn H (.dH [.v (.int .i64 nv),er])))(his:∀H,bO ga gb H->F Tryz.prog 107 [er,.v (.iface 204 (.pointer (some ga)))] H (bn H (.v (.bool false))))(hd:aK G [bN p s q d]):F Tryz.prog 83 [.ptr p 0] (aB G [bN p s q d]) (RO (.dH [.agg (aN zeroV),F5 11 q]) [bN p s q d] G):=by
 obtain⟨hs,hq,he1,he2,hx,_,hc0,hb0⟩:=hw
 obtain⟨hx1,hx2⟩:=hE
 have hr:=cz p s q d hs hq
 have hz:(s.extract q s.size).size=s.size-q:=by rw[ByteArray.size_extract];omega
 have qQ:=bW (s.extract q s.size) jq
 rw[hb0] at qQ
 have lI:=iD hG
 have hw:=dK p s q d 11
 subst h11
 generalize s.extract q s.size=u at*
 unfold bN at hd⊢
 refine aA (n:=72) (H0:=G) (M:=[(p,.box 60 (gu s q d))]) Tryz.func83 (by kernel_rfl) U (by rw[Tryz.ntmps83];rfl) hd<|?_
 refine Q.rg<|S.dd<|D.al z27 U U U λp2=>Q.as U<|Q.nt<|Q.rg<|Q.mv U<|S.qu (Z.aQ U U (λhd=>hr _ (hd.at_ (k:=1) U)))<|Q.as U<|Q.nt<|Q.rg<|Q.mv U<|S.qu (Z.slt (p:=u) (m:=1) (m':=u.size) Tryz.underlying9 U (.lo U) (by omega) (by omega))<|S.qu (Z.call U U (λH=>hx H))<|S.qu (Z.add (r:=(e:Int)) U U (Eq.trans (IntWalk.i64_in _ (by omega)) (by omega)))<|Q.as U<|Q.nt<|S.sq<|Q.rg<|Q.mv U<|Q.bi U U U<|Q.nt<|S.cF U (bf (by omega))<|UW.skip<|UQ.then<|Q.rg<|Q.mv U<|Q.mv U<|S.qu (Z.slt (p:=u) (m:=0) (m':=e) Tryz.underlying9 U (.hi U) (by omega) (by omega))<|S.qu (Z.bU U U (λH hS=>hpi H (hG.mono hS)))<|Q.mv U<|S.qu (Z.ex U U)<|S.qu (Z.ex U U)<|Q.as U<|Q.as U<|Q.nt<|S.sq<|UW.block<|S.sq<|Q.rg<|Q.mv U<|S.qu (Z.MF xW U lI)<|S.qu (Z.bU U U (λH hS=>his H (hG.mono hS)))<|Q.as U<|Q.nt<|S.cF U U<|Q.rg<|Q.mv U<|S.qu (Z.call U U (λH=>qQ H))<|Q.as U<|Q.nt<|?_
 refine S.cT U U<|UW.skip<|UQ.then<|S.cT U U<|Q.rg<|S.qu (Z.bd [] dh U U U U U U)<|Q.mv U<|S.qu (Z.aQ U U (λhd=>hw _ (hd.at_ (k:=1) U)))<|S.s<|D.st 0 ay U U U U U U U U λ_=>Q.as U<|Q.nt<|UW.ret<|UQ.az<|UQ.aj<|?_
 all_goals exact bD [_] (λhd=>ax U (av (k:=0) hd U U bH bI) (Y U)) (by repeat (first|exact List.Sublist.refl _|exact List.nil_sublist _|refine .cons_cons _ ?_|refine .cons _ ?_)) λhd=>⟨_,hd,rfl,rfl,rfl⟩
theorem MZ(p:Nat)(s:ByteArray)(q d e:Nat)(x c0:Int)(b0:Bool)(hw:xu s q e x c0 b0)(hE:x= -1/\q+e=s.size)(nv:Int)(er:AV)(h11:b0=true)(G:Hp){ga gb:Addr}(hG:bO ga gb G)(hpi:∀H,bO ga gb H->F Tryz.prog 106 [.v (.string ((s.extract q s.size).extract 0 e)),.v (.int .i64 10),.v (.int .i64 64)] H (bn H (.dH [.v (.int .i64 nv),er])))(his:∀H,bO ga gb H->F Tryz.prog 107 [er,.v (.iface 204 (.pointer (some ga)))] H (bn H (.v (.bool false))))(hd:aK G [bN p s q d]):F Tryz.prog 83 [.ptr p 0] (aB G [bN p s q d]) (RO (.dH [.agg (aN zeroV),F5 11 q]) [bN p s q d] G):=by
 obtain⟨hs,hq,he1,he2,hx,_,hc0,hb0⟩:=hw
 obtain⟨hx1,hx2⟩:=hE
 have hr:=cz p s q d hs hq
 have hz:(s.extract q s.size).size=s.size-q:=by rw[ByteArray.size_extract];omega
 have qQ:=bW (s.extract q s.size) jq
 rw[hb0] at qQ
 have lI:=iD hG
 have hw:=dK p s q d 11
 subst h11
 generalize s.extract q s.size=u at*
 unfold bN at hd⊢
 refine aA (n:=72) (H0:=G) (M:=[(p,.box 60 (gu s q d))]) Tryz.func83 (by kernel_rfl) U (by rw[Tryz.ntmps83];rfl) hd<|?_
 refine Q.rg<|S.dd<|D.al z27 U U U λp2=>Q.as U<|Q.nt<|Q.rg<|Q.mv U<|S.qu (Z.aQ U U (λhd=>hr _ (hd.at_ (k:=1) U)))<|Q.as U<|Q.nt<|Q.rg<|Q.mv U<|S.qu (Z.slt (p:=u) (m:=1) (m':=u.size) Tryz.underlying9 U (.lo U) (by omega) (by omega))<|S.qu (Z.call U U (λH=>hx H))<|S.qu (Z.add (r:=0) U U (Eq.trans (IntWalk.i64_in _ (by omega)) (by omega)))<|Q.as U<|Q.nt<|S.sq<|Q.rg<|Q.mv U<|Q.bi U U U<|Q.nt<|S.cT U (cZ (by omega))<|S.rg<|Q.mv U<|S.qu (Z.eq (u':=.v (.int .i64 ((e:Nat):Int))) (Z.fC Tryz.underlying9 U) (by rw[hz];congr 2;omega))<|?_
 refine Q.as U<|Q.nt<|Q.rg<|Q.mv U<|Q.mv U<|S.qu (Z.slt (p:=u) (m:=0) (m':=e) Tryz.underlying9 U (.hi U) (by omega) (by omega))<|S.qu (Z.bU U U (λH hS=>hpi H (hG.mono hS)))<|Q.mv U<|S.qu (Z.ex U U)<|S.qu (Z.ex U U)<|Q.as U<|Q.as U<|Q.nt<|S.sq<|UW.block<|S.sq<|Q.rg<|Q.mv U<|S.qu (Z.MF xW U lI)<|S.qu (Z.bU U U (λH hS=>his H (hG.mono hS)))<|Q.as U<|Q.nt<|S.cF U U<|Q.rg<|Q.mv U<|S.qu (Z.call U U (λH=>qQ H))<|Q.as U<|Q.nt<|S.cT U U<|UW.skip<|UQ.then<|S.cT U U<|Q.rg<|S.qu (Z.bd [] dh U U U U U U)<|Q.mv U<|S.qu (Z.aQ U U (λhd=>hw _ (hd.at_ (k:=1) U)))<|S.s<|D.st 0 ay U U U U U U U U λ_=>Q.as U<|Q.nt<|UW.ret<|UQ.az<|UQ.aj<|?_
 all_goals exact bD [_] (λhd=>ax U (av (k:=0) hd U U bH bI) (Y U)) (by repeat (first|exact List.Sublist.refl _|exact List.nil_sublist _|refine .cons_cons _ ?_|refine .cons _ ?_)) λhd=>⟨_,hd,rfl,rfl,rfl⟩
theorem M0(p:Nat)(s:ByteArray)(q d e:Nat)(x c0:Int)(b0:Bool)(hw:xu s q e x c0 b0)(hE:x+1=(e:Int)/\q+e<s.size)(nv:Int)(er:AV)(h11:b0=false/\c0=48/\1<e)(G:Hp){ga gb:Addr}(hG:bO ga gb G)(hpi:∀H,bO ga gb H->F Tryz.prog 106 [.v (.string ((s.extract q s.size).extract 0 e)),.v (.int .i64 10),.v (.int .i64 64)] H (bn H (.dH [.v (.int .i64 nv),er])))(his:∀H,bO ga gb H->F Tryz.prog 107 [er,.v (.iface 204 (.pointer (some ga)))] H (bn H (.v (.bool false))))(hd:aK G [bN p s q d]):F Tryz.prog 83 [.ptr p 0] (aB G [bN p s q d]) (RO (.dH [.agg (aN zeroV),F5 11 q]) [bN p s q d] G):=by
 obtain⟨hs,hq,he1,he2,hx,_,hc0,hb0⟩:=hw
 obtain⟨hx1,hx2⟩:=hE
 have hr:=cz p s q d hs hq
 have hz:(s.extract q s.size).size=s.size-q:=by rw[ByteArray.size_extract];omega
 have qQ:=bW (s.extract q s.size) jq
 rw[hb0] at qQ
 have lI:=iD hG
 have hw:=dK p s q d 11
 obtain⟨h11,h48,hlt⟩:=h11
 subst h11
 generalize s.extract q s.size=u at*
 unfold bN at hd⊢
 refine aA (n:=72) (H0:=G) (M:=[(p,.box 60 (gu s q d))]) Tryz.func83 (by kernel_rfl) U (by rw[Tryz.ntmps83];rfl) hd<|?_
 focus
  refine Q.rg<|S.dd<|D.al z27 U U U λp2=>Q.as U<|Q.nt<|Q.rg<|Q.mv U<|S.qu (Z.aQ U U (λhd=>hr _ (hd.at_ (k:=1) U)))<|Q.as U<|Q.nt<|Q.rg<|Q.mv U<|S.qu (Z.slt (p:=u) (m:=1) (m':=u.size) Tryz.underlying9 U (.lo U) (by omega) (by omega))<|S.qu (Z.call U U (λH=>hx H))<|S.qu (Z.add (r:=(e:Int)) U U (Eq.trans (IntWalk.i64_in _ (by omega)) (by omega)))<|Q.as U<|Q.nt<|S.sq<|Q.rg<|Q.mv U<|Q.bi U U U<|Q.nt<|S.cF U (bf (by omega))<|UW.skip<|UQ.then<|Q.rg<|Q.mv U<|Q.mv U<|S.qu (Z.slt (p:=u) (m:=0) (m':=e) Tryz.underlying9 U (.hi U) (by omega) (by omega))<|S.qu (Z.bU U U (λH hS=>hpi H (hG.mono hS)))<|Q.mv U<|S.qu (Z.ex U U)<|S.qu (Z.ex U U)<|Q.as U<|Q.as U<|Q.nt<|S.sq<|UW.block<|S.sq<|Q.rg<|Q.mv U<|S.qu (Z.MF xW U lI)<|S.qu (Z.bU U U (λH hS=>his H (hG.mono hS)))<|Q.as U<|Q.nt<|S.cF U U<|Q.rg<|Q.mv U<|S.qu (Z.call U U (λH=>qQ H))<|Q.as U<|Q.nt<|?_
  refine S.cF U U<|S.rg<|Q.mv U<|S.qu (Z.eq (u':=.v (.int .u8 c0)) (Z.is (p:=u) (i:=0) Tryz.underlying9 U U (by omega) (by omega)) (by rw[hc0]))<|?_
  refine Q.bi U U U<|Q.mv U<|?_
  refine S.tE 34 (λhc34=>?_) (λhc34=>?_)
  rotate_left
  omega
  refine Q.on (Z.mv U)<|Q.on (Z.bi U U U)<|Q.pk U U<|Q.as U<|Q.nt<|S.cT U (decide_eq_true (by omega))<|Q.rg<|S.qu (Z.bd [] dh U U U U U U)<|Q.mv U<|S.qu (Z.aQ U U (λhd=>hw _ (hd.at_ (k:=1) U)))<|S.s<|D.st 0 ay U U U U U U U U λ_=>Q.as U<|Q.nt<|UW.ret<|UQ.az<|UQ.aj<|?_
 all_goals exact bD [_] (λhd=>ax U (av (k:=0) hd U U bH bI) (Y U)) (by repeat (first|exact List.Sublist.refl _|exact List.nil_sublist _|refine .cons_cons _ ?_|refine .cons _ ?_)) λhd=>⟨_,hd,rfl,rfl,rfl⟩
theorem M3(p:Nat)(s:ByteArray)(q d e:Nat)(x c0:Int)(b0:Bool)(hw:xu s q e x c0 b0)(hE:x= -1/\q+e=s.size)(nv:Int)(er:AV)(h11:b0=false/\c0=48/\1<e)(G:Hp){ga gb:Addr}(hG:bO ga gb G)(hpi:∀H,bO ga gb H->F Tryz.prog 106 [.v (.string ((s.extract q s.size).extract 0 e)),.v (.int .i64 10),.v (.int .i64 64)] H (bn H (.dH [.v (.int .i64 nv),er])))(his:∀H,bO ga gb H->F Tryz.prog 107 [er,.v (.iface 204 (.pointer (some ga)))] H (bn H (.v (.bool false))))(hd:aK G [bN p s q d]):F Tryz.prog 83 [.ptr p 0] (aB G [bN p s q d]) (RO (.dH [.agg (aN zeroV),F5 11 q]) [bN p s q d] G):=by
 obtain⟨hs,hq,he1,he2,hx,_,hc0,hb0⟩:=hw
 obtain⟨hx1,hx2⟩:=hE
 have hr:=cz p s q d hs hq
 have hz:(s.extract q s.size).size=s.size-q:=by rw[ByteArray.size_extract];omega
 have qQ:=bW (s.extract q s.size) jq
 rw[hb0] at qQ
 have lI:=iD hG
 have hw:=dK p s q d 11
 obtain⟨h11,h48,hlt⟩:=h11
 subst h11
 generalize s.extract q s.size=u at*
 unfold bN at hd⊢
 refine aA (n:=72) (H0:=G) (M:=[(p,.box 60 (gu s q d))]) Tryz.func83 (by kernel_rfl) U (by rw[Tryz.ntmps83];rfl) hd<|?_
 focus
  refine Q.rg<|S.dd<|D.al z27 U U U λp2=>Q.as U<|Q.nt<|Q.rg<|Q.mv U<|S.qu (Z.aQ U U (λhd=>hr _ (hd.at_ (k:=1) U)))<|Q.as U<|Q.nt<|Q.rg<|Q.mv U<|S.qu (Z.slt (p:=u) (m:=1) (m':=u.size) Tryz.underlying9 U (.lo U) (by omega) (by omega))<|S.qu (Z.call U U (λH=>hx H))<|S.qu (Z.add (r:=0) U U (Eq.trans (IntWalk.i64_in _ (by omega)) (by omega)))<|Q.as U<|Q.nt<|S.sq<|Q.rg<|Q.mv U<|Q.bi U U U<|Q.nt<|S.cT U (cZ (by omega))<|S.rg<|Q.mv U<|S.qu (Z.eq (u':=.v (.int .i64 ((e:Nat):Int))) (Z.fC Tryz.underlying9 U) (by rw[hz];congr 2;omega))<|?_
  refine Q.as U<|Q.nt<|Q.rg<|Q.mv U<|Q.mv U<|S.qu (Z.slt (p:=u) (m:=0) (m':=e) Tryz.underlying9 U (.hi U) (by omega) (by omega))<|S.qu (Z.bU U U (λH hS=>hpi H (hG.mono hS)))<|Q.mv U<|S.qu (Z.ex U U)<|S.qu (Z.ex U U)<|Q.as U<|Q.as U<|Q.nt<|S.sq<|UW.block<|S.sq<|Q.rg<|Q.mv U<|S.qu (Z.MF xW U lI)<|S.qu (Z.bU U U (λH hS=>his H (hG.mono hS)))<|Q.as U<|Q.nt<|S.cF U U<|Q.rg<|Q.mv U<|S.qu (Z.call U U (λH=>qQ H))<|Q.as U<|Q.nt<|S.cF U U<|S.rg<|Q.mv U<|S.qu (Z.eq (u':=.v (.int .u8 c0)) (Z.is (p:=u) (i:=0) Tryz.underlying9 U U (by omega) (by omega)) (by rw[hc0]))<|?_
  refine Q.bi U U U<|Q.mv U<|?_
  refine S.tE 34 (λhc34=>?_) (λhc34=>?_)
  rotate_left
  omega
  refine Q.on (Z.mv U)<|Q.on (Z.bi U U U)<|Q.pk U U<|Q.as U<|Q.nt<|S.cT U (decide_eq_true (by omega))<|Q.rg<|S.qu (Z.bd [] dh U U U U U U)<|Q.mv U<|S.qu (Z.aQ U U (λhd=>hw _ (hd.at_ (k:=1) U)))<|S.s<|D.st 0 ay U U U U U U U U λ_=>Q.as U<|Q.nt<|UW.ret<|UQ.az<|UQ.aj<|?_
 all_goals exact bD [_] (λhd=>ax U (av (k:=0) hd U U bH bI) (Y U)) (by repeat (first|exact List.Sublist.refl _|exact List.nil_sublist _|refine .cons_cons _ ?_|refine .cons _ ?_)) λhd=>⟨_,hd,rfl,rfl,rfl⟩
theorem Dk(p:Nat)(s:ByteArray)(q d e:Nat)(x c0:Int)(b0:Bool)(hw:xu s q e x c0 b0)(hE:x+1=(e:Int)/\q+e<s.size)(nv:Int)(a:ByteArray)(pv:Value)(hno:b0=false/\(c0=48->e<=1))(G:Hp){ga gb:Addr}(hG:bO ga gb G)(hpi:∀H,bO ga gb H->F Tryz.prog 106 [.v (.string ((s.extract q s.size).extract 0 e)),.v (.int .i64 10),.v (.int .i64 64)] H (bn H (.dH [.v (.int .i64 nv),sZ a pv])))(his:∀H,bO ga gb H->F Tryz.prog 107 [sZ a pv,.v (.iface 204 (.pointer (some ga)))] H (bn H (.v (.bool false))))(hd:aK G [bN p s q d]):F Tryz.prog 83 [.ptr p 0] (aB G [bN p s q d]) (RO (.dH [.agg (aN zeroV),F5 13 q]) [bN p s q d] G):=by
 obtain⟨hs,hq,he1,he2,hx,_,hc0,hb0⟩:=hw
 obtain⟨hx1,hx2⟩:=hE
 have hr:=cz p s q d hs hq
 have hz:(s.extract q s.size).size=s.size-q:=by rw[ByteArray.size_extract];omega
 have qQ:=bW (s.extract q s.size) jq
 rw[hb0] at qQ
 have lI:=iD hG
 have hw:=dK p s q d 13
 obtain⟨h11,h48⟩:=hno
 subst h11
 unfold sZ at hpi his
 generalize s.extract q s.size=u at*
 unfold bN at hd⊢
 refine aA (n:=72) (H0:=G) (M:=[(p,.box 60 (gu s q d))]) Tryz.func83 (by kernel_rfl) U (by rw[Tryz.ntmps83];rfl) hd<|?_
 focus
  refine Q.rg<|S.dd<|D.al z27 U U U λp2=>Q.as U<|Q.nt<|Q.rg<|Q.mv U<|S.qu (Z.aQ U U (λhd=>hr _ (hd.at_ (k:=1) U)))<|Q.as U<|Q.nt<|Q.rg<|Q.mv U<|S.qu (Z.slt (p:=u) (m:=1) (m':=u.size) Tryz.underlying9 U (.lo U) (by omega) (by omega))<|S.qu (Z.call U U (λH=>hx H))<|S.qu (Z.add (r:=(e:Int)) U U (Eq.trans (IntWalk.i64_in _ (by omega)) (by omega)))<|Q.as U<|Q.nt<|S.sq<|Q.rg<|Q.mv U<|Q.bi U U U<|Q.nt<|S.cF U (bf (by omega))<|UW.skip<|UQ.then<|Q.rg<|Q.mv U<|Q.mv U<|S.qu (Z.slt (p:=u) (m:=0) (m':=e) Tryz.underlying9 U (.hi U) (by omega) (by omega))<|S.qu (Z.bU U U (λH hS=>hpi H (hG.mono hS)))<|Q.mv U<|S.qu (Z.ex U U)<|S.qu (Z.ex U U)<|Q.as U<|Q.as U<|Q.nt<|S.sq<|UW.block<|S.sq<|Q.rg<|Q.mv U<|S.qu (Z.MF xW U lI)<|S.qu (Z.bU U U (λH hS=>his H (hG.mono hS)))<|Q.as U<|Q.nt<|S.cF U U<|Q.rg<|Q.mv U<|S.qu (Z.call U U (λH=>qQ H))<|Q.as U<|Q.nt<|?_
  refine S.cF U U<|S.rg<|Q.mv U<|S.qu (Z.eq (u':=.v (.int .u8 c0)) (Z.is (p:=u) (i:=0) Tryz.underlying9 U U (by omega) (by omega)) (by rw[hc0]))<|?_
  refine Q.bi U U U<|Q.mv U<|?_
  refine S.tE 34 (λhc34=>?_) (λhc34=>?_)
  refine Q.on (Z.mv U)<|Q.on (Z.bi U U U)<|Q.pk U U<|Q.as U<|Q.nt<|S.cF U (decide_eq_false (by omega))<|S.sq<|Q.rg<|Q.mv U<|S.qu (Z.inT U)<|Q.as U<|Q.nt<|S.cT U U<|UW.skip<|UQ.then<|S.cT U U<|Q.rg<|S.qu (Z.bd [] dh U U U U U U)<|Q.mv U<|S.qu (Z.aQ U U (λhd=>hw _ (hd.at_ (k:=1) U)))<|S.s<|D.st 0 ay U U U U U U U U λ_=>Q.as U<|Q.nt<|UW.ret<|UQ.az<|UQ.aj<|?_
  rotate_left
  refine Q.of<|Q.of<|Q.pk U U<|Q.as U<|Q.nt<|S.cF U U<|S.sq<|Q.rg<|Q.mv U<|S.qu (Z.inT U)<|Q.as U<|Q.nt<|S.cT U U<|UW.skip<|UQ.then<|S.cT U U<|Q.rg<|S.qu (Z.bd [] dh U U U U U U)<|Q.mv U<|S.qu (Z.aQ U U (λhd=>hw _ (hd.at_ (k:=1) U)))<|S.s<|D.st 0 ay U U U U U U U U λ_=>Q.as U<|Q.nt<|UW.ret<|UQ.az<|UQ.aj<|?_
  rotate_left
 all_goals exact bD [_] (λhd=>ax U (av (k:=0) hd U U bH bI) (Y U)) (by repeat (first|exact List.Sublist.refl _|exact List.nil_sublist _|refine .cons_cons _ ?_|refine .cons _ ?_)) λhd=>⟨_,hd,rfl,rfl,rfl⟩
theorem Dl(p:Nat)(s:ByteArray)(q d e:Nat)(x c0:Int)(b0:Bool)(hw:xu s q e x c0 b0)(hE:x= -1/\q+e=s.size)(nv:Int)(a:ByteArray)(pv:Value)(hno:b0=false/\(c0=48->e<=1))(G:Hp){ga gb:Addr}(hG:bO ga gb G)(hpi:∀H,bO ga gb H->F Tryz.prog 106 [.v (.string ((s.extract q s.size).extract 0 e)),.v (.int .i64 10),.v (.int .i64 64)] H (bn H (.dH [.v (.int .i64 nv),sZ a pv])))(his:∀H,bO ga gb H->F Tryz.prog 107 [sZ a pv,.v (.iface 204 (.pointer (some ga)))] H (bn H (.v (.bool false))))(hd:aK G [bN p s q d]):F Tryz.prog 83 [.ptr p 0] (aB G [bN p s q d]) (RO (.dH [.agg (aN zeroV),F5 13 q]) [bN p s q d] G):=by
 obtain⟨hs,hq,he1,he2,hx,_,hc0,hb0⟩:=hw
 obtain⟨hx1,hx2⟩:=hE
 have hr:=cz p s q d hs hq
 have hz:(s.extract q s.size).size=s.size-q:=by rw[ByteArray.size_extract];omega
 have qQ:=bW (s.extract q s.size) jq
 rw[hb0] at qQ
 have lI:=iD hG
 have hw:=dK p s q d 13
 obtain⟨h11,h48⟩:=hno
 subst h11
 unfold sZ at hpi his
 generalize s.extract q s.size=u at*
 unfold bN at hd⊢
 refine aA (n:=72) (H0:=G) (M:=[(p,.box 60 (gu s q d))]) Tryz.func83 (by kernel_rfl) U (by rw[Tryz.ntmps83];rfl) hd<|?_
 focus
  refine Q.rg<|S.dd<|D.al z27 U U U λp2=>Q.as U<|Q.nt<|Q.rg<|Q.mv U<|S.qu (Z.aQ U U (λhd=>hr _ (hd.at_ (k:=1) U)))<|Q.as U<|Q.nt<|Q.rg<|Q.mv U<|S.qu (Z.slt (p:=u) (m:=1) (m':=u.size) Tryz.underlying9 U (.lo U) (by omega) (by omega))<|S.qu (Z.call U U (λH=>hx H))<|S.qu (Z.add (r:=0) U U (Eq.trans (IntWalk.i64_in _ (by omega)) (by omega)))<|Q.as U<|Q.nt<|S.sq<|Q.rg<|Q.mv U<|Q.bi U U U<|Q.nt<|S.cT U (cZ (by omega))<|S.rg<|Q.mv U<|S.qu (Z.eq (u':=.v (.int .i64 ((e:Nat):Int))) (Z.fC Tryz.underlying9 U) (by rw[hz];congr 2;omega))<|?_
  refine Q.as U<|Q.nt<|Q.rg<|Q.mv U<|Q.mv U<|S.qu (Z.slt (p:=u) (m:=0) (m':=e) Tryz.underlying9 U (.hi U) (by omega) (by omega))<|S.qu (Z.bU U U (λH hS=>hpi H (hG.mono hS)))<|Q.mv U<|S.qu (Z.ex U U)<|S.qu (Z.ex U U)<|Q.as U<|Q.as U<|Q.nt<|S.sq<|UW.block<|S.sq<|Q.rg<|Q.mv U<|S.qu (Z.MF xW U lI)<|S.qu (Z.bU U U (λH hS=>his H (hG.mono hS)))<|Q.as U<|Q.nt<|S.cF U U<|Q.rg<|Q.mv U<|S.qu (Z.call U U (λH=>qQ H))<|Q.as U<|Q.nt<|S.cF U U<|S.rg<|Q.mv U<|S.qu (Z.eq (u':=.v (.int .u8 c0)) (Z.is (p:=u) (i:=0) Tryz.underlying9 U U (by omega) (by omega)) (by rw[hc0]))<|?_
  refine Q.bi U U U<|Q.mv U<|?_
  refine S.tE 34 (λhc34=>?_) (λhc34=>?_)
  refine Q.on (Z.mv U)<|Q.on (Z.bi U U U)<|Q.pk U U<|Q.as U<|Q.nt<|S.cF U (decide_eq_false (by omega))<|S.sq<|Q.rg<|Q.mv U<|S.qu (Z.inT U)<|Q.as U<|Q.nt<|S.cT U U<|UW.skip<|UQ.then<|S.cT U U<|Q.rg<|S.qu (Z.bd [] dh U U U U U U)<|Q.mv U<|S.qu (Z.aQ U U (λhd=>hw _ (hd.at_ (k:=1) U)))<|S.s<|D.st 0 ay U U U U U U U U λ_=>Q.as U<|Q.nt<|UW.ret<|UQ.az<|UQ.aj<|?_
  rotate_left
  refine Q.of<|Q.of<|Q.pk U U<|Q.as U<|Q.nt<|S.cF U U<|S.sq<|Q.rg<|Q.mv U<|S.qu (Z.inT U)<|Q.as U<|Q.nt<|S.cT U U<|UW.skip<|UQ.then<|S.cT U U<|Q.rg<|S.qu (Z.bd [] dh U U U U U U)<|Q.mv U<|S.qu (Z.aQ U U (λhd=>hw _ (hd.at_ (k:=1) U)))<|S.s<|D.st 0 ay U U U U U U U U λ_=>Q.as U<|Q.nt<|UW.ret<|UQ.az<|UQ.aj<|?_
  rotate_left
 all_goals exact bD [_] (λhd=>ax U (av (k:=0) hd U U bH bI) (Y U)) (by repeat (first|exact List.Sublist.refl _|exact List.nil_sublist _|refine .cons_cons _ ?_|refine .cons _ ?_)) λhd=>⟨_,hd,rfl,rfl,rfl⟩
theorem Dm(p:Nat)(s:ByteArray)(q d e:Nat)(x c0:Int)(b0:Bool)(hw:xu s q e x c0 b0)(hE:x+1=(e:Int)/\q+e<s.size)(nv:Int)(hno:b0=false/\(c0=48->e<=1))(Cj:nv< -9007199254740991\/9007199254740991<nv)(G:Hp){ga gb:Addr}(hG:bO ga gb G)(hpi:∀H,bO ga gb H->F Tryz.prog 106 [.v (.string ((s.extract q s.size).extract 0 e)),.v (.int .i64 10),.v (.int .i64 64)] H (bn H (.dH [.v (.int .i64 nv),.v .nilIface])))(his:∀H,bO ga gb H->F Tryz.prog 107 [.v .nilIface,.v (.iface 204 (.pointer (some ga)))] H (bn H (.v (.bool false))))(hd:aK G [bN p s q d]):F Tryz.prog 83 [.ptr p 0] (aB G [bN p s q d]) (RO (.dH [.agg (aN zeroV),F5 13 q]) [bN p s q d] G):=by
 obtain⟨hs,hq,he1,he2,hx,_,hc0,hb0⟩:=hw
 obtain⟨hx1,hx2⟩:=hE
 have hr:=cz p s q d hs hq
 have hz:(s.extract q s.size).size=s.size-q:=by rw[ByteArray.size_extract];omega
 have qQ:=bW (s.extract q s.size) jq
 rw[hb0] at qQ
 have lI:=iD hG
 have hw:=dK p s q d 13
 obtain⟨h11,h48⟩:=hno
 subst h11
 generalize s.extract q s.size=u at*
 unfold bN at hd⊢
 refine aA (n:=72) (H0:=G) (M:=[(p,.box 60 (gu s q d))]) Tryz.func83 (by kernel_rfl) U (by rw[Tryz.ntmps83];rfl) hd<|?_
 focus
  refine Q.rg<|S.dd<|D.al z27 U U U λp2=>Q.as U<|Q.nt<|Q.rg<|Q.mv U<|S.qu (Z.aQ U U (λhd=>hr _ (hd.at_ (k:=1) U)))<|Q.as U<|Q.nt<|Q.rg<|Q.mv U<|S.qu (Z.slt (p:=u) (m:=1) (m':=u.size) Tryz.underlying9 U (.lo U) (by omega) (by omega))<|S.qu (Z.call U U (λH=>hx H))<|S.qu (Z.add (r:=(e:Int)) U U (Eq.trans (IntWalk.i64_in _ (by omega)) (by omega)))<|Q.as U<|Q.nt<|S.sq<|Q.rg<|Q.mv U<|Q.bi U U U<|Q.nt<|S.cF U (bf (by omega))<|UW.skip<|UQ.then<|Q.rg<|Q.mv U<|Q.mv U<|S.qu (Z.slt (p:=u) (m:=0) (m':=e) Tryz.underlying9 U (.hi U) (by omega) (by omega))<|S.qu (Z.bU U U (λH hS=>hpi H (hG.mono hS)))<|Q.mv U<|S.qu (Z.ex U U)<|S.qu (Z.ex U U)<|Q.as U<|Q.as U<|Q.nt<|S.sq<|UW.block<|S.sq<|Q.rg<|Q.mv U<|S.qu (Z.MF xW U lI)<|S.qu (Z.bU U U (λH hS=>his H (hG.mono hS)))<|Q.as U<|Q.nt<|S.cF U U<|Q.rg<|Q.mv U<|S.qu (Z.call U U (λH=>qQ H))<|Q.as U<|Q.nt<|?_
  refine S.cF U U<|S.rg<|Q.mv U<|S.qu (Z.eq (u':=.v (.int .u8 c0)) (Z.is (p:=u) (i:=0) Tryz.underlying9 U U (by omega) (by omega)) (by rw[hc0]))<|?_
  refine Q.bi U U U<|Q.mv U<|?_
  refine S.tE 34 (λhc34=>?_) (λhc34=>?_)
  refine Q.on (Z.mv U)<|Q.on (Z.bi U U U)<|Q.pk U U<|Q.as U<|Q.nt<|S.cF U (decide_eq_false (by omega))<|S.sq<|Q.rg<|Q.mv U<|S.qu (Z.BK U)<|Q.as U<|Q.nt<|S.cF U U<|Q.rg<|Q.mv U<|Q.bi U U U<|Q.as U<|Q.nt<|?_
  refine S.cD U (λEw=>?_) (λEw=>?_)
  refine UW.skip<|UQ.then<|S.cT U (decide_eq_true (by omega))<|Q.rg<|S.qu (Z.bd [] dh U U U U U U)<|Q.mv U<|S.qu (Z.aQ U U (λhd=>hw _ (hd.at_ (k:=1) U)))<|S.s<|D.st 0 ay U U U U U U U U λ_=>Q.as U<|Q.nt<|UW.ret<|UQ.az<|UQ.aj<|?_
  rotate_left
  refine Q.rg<|Q.mv U<|Q.bi U U U<|Q.as U<|Q.nt<|S.cT U (decide_eq_true (by omega))<|UW.skip<|UQ.then<|S.cT U (decide_eq_true (by omega))<|Q.rg<|S.qu (Z.bd [] dh U U U U U U)<|Q.mv U<|S.qu (Z.aQ U U (λhd=>hw _ (hd.at_ (k:=1) U)))<|S.s<|D.st 0 ay U U U U U U U U λ_=>Q.as U<|Q.nt<|UW.ret<|UQ.az<|UQ.aj<|?_
  rotate_left
  refine Q.of<|Q.of<|Q.pk U U<|Q.as U<|Q.nt<|S.cF U U<|S.sq<|Q.rg<|Q.mv U<|S.qu (Z.BK U)<|Q.as U<|Q.nt<|S.cF U U<|Q.rg<|Q.mv U<|Q.bi U U U<|Q.as U<|Q.nt<|?_
  refine S.cD U (λEw=>?_) (λEw=>?_)
  refine UW.skip<|UQ.then<|S.cT U (decide_eq_true (by omega))<|Q.rg<|S.qu (Z.bd [] dh U U U U U U)<|Q.mv U<|S.qu (Z.aQ U U (λhd=>hw _ (hd.at_ (k:=1) U)))<|S.s<|D.st 0 ay U U U U U U U U λ_=>Q.as U<|Q.nt<|UW.ret<|UQ.az<|UQ.aj<|?_
  rotate_left
  refine Q.rg<|Q.mv U<|Q.bi U U U<|Q.as U<|Q.nt<|S.cT U (decide_eq_true (by omega))<|UW.skip<|UQ.then<|S.cT U (decide_eq_true (by omega))<|Q.rg<|S.qu (Z.bd [] dh U U U U U U)<|Q.mv U<|S.qu (Z.aQ U U (λhd=>hw _ (hd.at_ (k:=1) U)))<|S.s<|D.st 0 ay U U U U U U U U λ_=>Q.as U<|Q.nt<|UW.ret<|UQ.az<|UQ.aj<|?_
  rotate_left
 all_goals exact bD [_] (λhd=>ax U (av (k:=0) hd U U bH bI) (Y U)) (by repeat (first|exact List.Sublist.refl _|exact List.nil_sublist _|refine .cons_cons _ ?_|refine .cons _ ?_)) λhd=>⟨_,hd,rfl,rfl,rfl⟩
theorem Dn(p:Nat)(s:ByteArray)(q d e:Nat)(x c0:Int)(b0:Bool)(hw:xu s q e x c0 b0)(hE:x= -1/\q+e=s.size)(nv:Int)(hno:b0=false/\(c0=48->e<=1))(Cj:nv< -9007199254740991\/9007199254740991<nv)(G:Hp){ga gb:Addr}(hG:bO ga gb G)(hpi:∀H,bO ga gb H->F Tryz.prog 106 [.v (.string ((s.extract q s.size).extract 0 e)),.v (.int .i64 10),.v (.int .i64 64)] H (bn H (.dH [.v (.int .i64 nv),.v .nilIface])))(his:∀H,bO ga gb H->F Tryz.prog 107 [.v .nilIface,.v (.iface 204 (.pointer (some ga)))] H (bn H (.v (.bool false))))(hd:aK G [bN p s q d]):F Tryz.prog 83 [.ptr p 0] (aB G [bN p s q d]) (RO (.dH [.agg (aN zeroV),F5 13 q]) [bN p s q d] G):=by
 obtain⟨hs,hq,he1,he2,hx,_,hc0,hb0⟩:=hw
 obtain⟨hx1,hx2⟩:=hE
 have hr:=cz p s q d hs hq
 have hz:(s.extract q s.size).size=s.size-q:=by rw[ByteArray.size_extract];omega
 have qQ:=bW (s.extract q s.size) jq
 rw[hb0] at qQ
 have lI:=iD hG
 have hw:=dK p s q d 13
 obtain⟨h11,h48⟩:=hno
 subst h11
 generalize s.extract q s.size=u at*
 unfold bN at hd⊢
 refine aA (n:=72) (H0:=G) (M:=[(p,.box 60 (gu s q d))]) Tryz.func83 (by kernel_rfl) U (by rw[Tryz.ntmps83];rfl) hd<|?_
 focus
  refine Q.rg<|S.dd<|D.al z27 U U U λp2=>Q.as U<|Q.nt<|Q.rg<|Q.mv U<|S.qu (Z.aQ U U (λhd=>hr _ (hd.at_ (k:=1) U)))<|Q.as U<|Q.nt<|Q.rg<|Q.mv U<|S.qu (Z.slt (p:=u) (m:=1) (m':=u.size) Tryz.underlying9 U (.lo U) (by omega) (by omega))<|S.qu (Z.call U U (λH=>hx H))<|S.qu (Z.add (r:=0) U U (Eq.trans (IntWalk.i64_in _ (by omega)) (by omega)))<|Q.as U<|Q.nt<|S.sq<|Q.rg<|Q.mv U<|Q.bi U U U<|Q.nt<|S.cT U (cZ (by omega))<|S.rg<|Q.mv U<|S.qu (Z.eq (u':=.v (.int .i64 ((e:Nat):Int))) (Z.fC Tryz.underlying9 U) (by rw[hz];congr 2;omega))<|?_
  refine Q.as U<|Q.nt<|Q.rg<|Q.mv U<|Q.mv U<|S.qu (Z.slt (p:=u) (m:=0) (m':=e) Tryz.underlying9 U (.hi U) (by omega) (by omega))<|S.qu (Z.bU U U (λH hS=>hpi H (hG.mono hS)))<|Q.mv U<|S.qu (Z.ex U U)<|S.qu (Z.ex U U)<|Q.as U<|Q.as U<|Q.nt<|S.sq<|UW.block<|S.sq<|Q.rg<|Q.mv U<|S.qu (Z.MF xW U lI)<|S.qu (Z.bU U U (λH hS=>his H (hG.mono hS)))<|Q.as U<|Q.nt<|S.cF U U<|Q.rg<|Q.mv U<|S.qu (Z.call U U (λH=>qQ H))<|Q.as U<|Q.nt<|S.cF U U<|S.rg<|Q.mv U<|S.qu (Z.eq (u':=.v (.int .u8 c0)) (Z.is (p:=u) (i:=0) Tryz.underlying9 U U (by omega) (by omega)) (by rw[hc0]))<|?_
  refine Q.bi U U U<|Q.mv U<|?_
  refine S.tE 34 (λhc34=>?_) (λhc34=>?_)
  refine Q.on (Z.mv U)<|Q.on (Z.bi U U U)<|Q.pk U U<|Q.as U<|Q.nt<|S.cF U (decide_eq_false (by omega))<|S.sq<|Q.rg<|Q.mv U<|S.qu (Z.BK U)<|Q.as U<|Q.nt<|S.cF U U<|Q.rg<|Q.mv U<|Q.bi U U U<|Q.as U<|Q.nt<|?_
  refine S.cD U (λEw=>?_) (λEw=>?_)
  refine UW.skip<|UQ.then<|S.cT U (decide_eq_true (by omega))<|Q.rg<|S.qu (Z.bd [] dh U U U U U U)<|Q.mv U<|S.qu (Z.aQ U U (λhd=>hw _ (hd.at_ (k:=1) U)))<|S.s<|D.st 0 ay U U U U U U U U λ_=>Q.as U<|Q.nt<|UW.ret<|UQ.az<|UQ.aj<|?_
  rotate_left
  refine Q.rg<|Q.mv U<|Q.bi U U U<|Q.as U<|Q.nt<|S.cT U (decide_eq_true (by omega))<|UW.skip<|UQ.then<|S.cT U (decide_eq_true (by omega))<|Q.rg<|S.qu (Z.bd [] dh U U U U U U)<|Q.mv U<|S.qu (Z.aQ U U (λhd=>hw _ (hd.at_ (k:=1) U)))<|S.s<|D.st 0 ay U U U U U U U U λ_=>Q.as U<|Q.nt<|UW.ret<|UQ.az<|UQ.aj<|?_
  rotate_left
  refine Q.of<|Q.of<|Q.pk U U<|Q.as U<|Q.nt<|S.cF U U<|S.sq<|Q.rg<|Q.mv U<|S.qu (Z.BK U)<|Q.as U<|Q.nt<|S.cF U U<|Q.rg<|Q.mv U<|Q.bi U U U<|Q.as U<|Q.nt<|?_
  refine S.cD U (λEw=>?_) (λEw=>?_)
  refine UW.skip<|UQ.then<|S.cT U (decide_eq_true (by omega))<|Q.rg<|S.qu (Z.bd [] dh U U U U U U)<|Q.mv U<|S.qu (Z.aQ U U (λhd=>hw _ (hd.at_ (k:=1) U)))<|S.s<|D.st 0 ay U U U U U U U U λ_=>Q.as U<|Q.nt<|UW.ret<|UQ.az<|UQ.aj<|?_
  rotate_left
  refine Q.rg<|Q.mv U<|Q.bi U U U<|Q.as U<|Q.nt<|S.cT U (decide_eq_true (by omega))<|UW.skip<|UQ.then<|S.cT U (decide_eq_true (by omega))<|Q.rg<|S.qu (Z.bd [] dh U U U U U U)<|Q.mv U<|S.qu (Z.aQ U U (λhd=>hw _ (hd.at_ (k:=1) U)))<|S.s<|D.st 0 ay U U U U U U U U λ_=>Q.as U<|Q.nt<|UW.ret<|UQ.az<|UQ.aj<|?_
  rotate_left
 all_goals exact bD [_] (λhd=>ax U (av (k:=0) hd U U bH bI) (Y U)) (by repeat (first|exact List.Sublist.refl _|exact List.nil_sublist _|refine .cons_cons _ ?_|refine .cons _ ?_)) λhd=>⟨_,hd,rfl,rfl,rfl⟩
theorem M4(p:Nat)(s:ByteArray)(q d e:Nat)(x c0:Int)(b0:Bool)(hw:xu s q e x c0 b0)(hE:x+1=(e:Int)/\q+e<s.size)(nv:Int)(hno:b0=false/\(c0=48->e<=1))(Cj: -9007199254740991<=nv/\nv<=9007199254740991)(cx:Int)(hcx:aO (s.extract q s.size) (e:Int)=cx)(ib:Int)(hib:∀H,F Tryz.prog 108 [.v (.string MU),.v (.int .u8 cx)] H (bn H (.v (.int .i64 ib))))(O6:0<=ib)(hlt:q+e<s.size)(G:Hp){ga gb:Addr}(hG:bO ga gb G)(hpi:∀H,bO ga gb H->F Tryz.prog 106 [.v (.string ((s.extract q s.size).extract 0 e)),.v (.int .i64 10),.v (.int .i64 64)] H (bn H (.dH [.v (.int .i64 nv),.v .nilIface])))(his:∀H,bO ga gb H->F Tryz.prog 107 [.v .nilIface,.v (.iface 204 (.pointer (some ga)))] H (bn H (.v (.bool false))))(hd:aK G [bN p s q d]):F Tryz.prog 83 [.ptr p 0] (aB G [bN p s q d]) (RO (.dH [.agg (aN zeroV),F5 13 q]) [bN p s q d] G):=by
 obtain⟨hs,hq,he1,he2,hx,_,hc0,hb0⟩:=hw
 obtain⟨hx1,hx2⟩:=hE
 have hr:=cz p s q d hs hq
 have hz:(s.extract q s.size).size=s.size-q:=by rw[ByteArray.size_extract];omega
 have qQ:=bW (s.extract q s.size) jq
 rw[hb0] at qQ
 have lI:=iD hG
 have hw:=dK p s q d 13
 obtain⟨h11,h48⟩:=hno
 subst h11
 generalize s.extract q s.size=u at*
 unfold bN at hd⊢
 refine aA (n:=72) (H0:=G) (M:=[(p,.box 60 (gu s q d))]) Tryz.func83 (by kernel_rfl) U (by rw[Tryz.ntmps83];rfl) hd<|?_
 focus
  refine Q.rg<|S.dd<|D.al z27 U U U λp2=>Q.as U<|Q.nt<|Q.rg<|Q.mv U<|S.qu (Z.aQ U U (λhd=>hr _ (hd.at_ (k:=1) U)))<|Q.as U<|Q.nt<|Q.rg<|Q.mv U<|S.qu (Z.slt (p:=u) (m:=1) (m':=u.size) Tryz.underlying9 U (.lo U) (by omega) (by omega))<|S.qu (Z.call U U (λH=>hx H))<|S.qu (Z.add (r:=(e:Int)) U U (Eq.trans (IntWalk.i64_in _ (by omega)) (by omega)))<|Q.as U<|Q.nt<|S.sq<|Q.rg<|Q.mv U<|Q.bi U U U<|Q.nt<|S.cF U (bf (by omega))<|UW.skip<|UQ.then<|Q.rg<|Q.mv U<|Q.mv U<|S.qu (Z.slt (p:=u) (m:=0) (m':=e) Tryz.underlying9 U (.hi U) (by omega) (by omega))<|S.qu (Z.bU U U (λH hS=>hpi H (hG.mono hS)))<|Q.mv U<|S.qu (Z.ex U U)<|S.qu (Z.ex U U)<|Q.as U<|Q.as U<|Q.nt<|S.sq<|UW.block<|S.sq<|Q.rg<|Q.mv U<|S.qu (Z.MF xW U lI)<|S.qu (Z.bU U U (λH hS=>his H (hG.mono hS)))<|Q.as U<|Q.nt<|S.cF U U<|Q.rg<|Q.mv U<|S.qu (Z.call U U (λH=>qQ H))<|Q.as U<|Q.nt<|?_
  refine S.cF U U<|S.rg<|Q.mv U<|S.qu (Z.eq (u':=.v (.int .u8 c0)) (Z.is (p:=u) (i:=0) Tryz.underlying9 U U (by omega) (by omega)) (by rw[hc0]))<|?_
  refine Q.bi U U U<|Q.mv U<|?_
  refine S.tE 34 (λhc34=>?_) (λhc34=>?_)
  refine Q.on (Z.mv U)<|Q.on (Z.bi U U U)<|Q.pk U U<|Q.as U<|Q.nt<|S.cF U (decide_eq_false (by omega))<|S.sq<|Q.rg<|Q.mv U<|S.qu (Z.BK U)<|Q.as U<|Q.nt<|S.cF U U<|Q.rg<|Q.mv U<|Q.bi U U U<|Q.as U<|Q.nt<|S.cF U (decide_eq_false (by omega))<|Q.rg<|Q.mv U<|Q.bi U U U<|Q.as U<|Q.nt<|S.cF U (decide_eq_false (by omega))<|S.rg<|Q.mv U<|Q.mv U<|S.qu (Z.fC Tryz.underlying9 U)<|Q.bi U U U<|Q.mv U<|?_
  refine S.tD 52 (λBp=>?_) (λBp=>?_)
  rotate_left
  omega
  rotate_right
  refine Q.on (Z.mv U)<|Q.on (Z.mv U)<|Q.on (Z.eq (u':=.v (.int .u8 cx)) (Z.is (p:=u) (i:=(e:Int)) Tryz.underlying9 U U (by omega) (by omega)) (by rw[hcx]))<|?_
  refine Q.on (Z.call U U (λH=>hib H))<|Q.on (Z.bi U U U)<|Q.pk U U<|Q.as U<|Q.nt<|S.cT U (decide_eq_true (by omega))<|Q.rg<|S.qu (Z.bd [] dh U U U U U U)<|Q.mv U<|S.qu (Z.aQ U U (λhd=>hw _ (hd.at_ (k:=1) U)))<|S.s<|D.st 0 ay U U U U U U U U λ_=>Q.as U<|Q.nt<|UW.ret<|UQ.az<|UQ.aj<|?_
  rotate_left
  refine Q.of<|Q.of<|Q.pk U U<|Q.as U<|Q.nt<|S.cF U U<|S.sq<|Q.rg<|Q.mv U<|S.qu (Z.BK U)<|Q.as U<|Q.nt<|S.cF U U<|Q.rg<|Q.mv U<|Q.bi U U U<|Q.as U<|Q.nt<|S.cF U (decide_eq_false (by omega))<|Q.rg<|Q.mv U<|Q.bi U U U<|Q.as U<|Q.nt<|S.cF U (decide_eq_false (by omega))<|S.rg<|Q.mv U<|Q.mv U<|S.qu (Z.fC Tryz.underlying9 U)<|Q.bi U U U<|Q.mv U<|?_
  refine S.tD 52 (λBp=>?_) (λBp=>?_)
  rotate_left
  omega
  rotate_right
  refine Q.on (Z.mv U)<|Q.on (Z.mv U)<|Q.on (Z.eq (u':=.v (.int .u8 cx)) (Z.is (p:=u) (i:=(e:Int)) Tryz.underlying9 U U (by omega) (by omega)) (by rw[hcx]))<|?_
  refine Q.on (Z.call U U (λH=>hib H))<|Q.on (Z.bi U U U)<|Q.pk U U<|Q.as U<|Q.nt<|S.cT U (decide_eq_true (by omega))<|Q.rg<|S.qu (Z.bd [] dh U U U U U U)<|Q.mv U<|S.qu (Z.aQ U U (λhd=>hw _ (hd.at_ (k:=1) U)))<|S.s<|D.st 0 ay U U U U U U U U λ_=>Q.as U<|Q.nt<|UW.ret<|UQ.az<|UQ.aj<|?_
  rotate_left
 all_goals exact bD [_] (λhd=>ax U (av (k:=0) hd U U bH bI) (Y U)) (by repeat (first|exact List.Sublist.refl _|exact List.nil_sublist _|refine .cons_cons _ ?_|refine .cons _ ?_)) λhd=>⟨_,hd,rfl,rfl,rfl⟩
theorem O7(p:Nat)(s:ByteArray)(q d e:Nat)(x c0:Int)(b0:Bool)(hw:xu s q e x c0 b0)(hE:x+1=(e:Int)/\q+e<s.size)(nv:Int)(hno:b0=false/\(c0=48->e<=1))(Cj: -9007199254740991<=nv/\nv<=9007199254740991)(cx:Int)(hcx:aO (s.extract q s.size) (e:Int)=cx)(ib:Int)(hib:∀H,F Tryz.prog 108 [.v (.string MU),.v (.int .u8 cx)] H (bn H (.v (.int .i64 ib))))(O6:q+e<s.size->ib<0)(G:Hp){ga gb:Addr}(hG:bO ga gb G)(hpi:∀H,bO ga gb H->F Tryz.prog 106 [.v (.string ((s.extract q s.size).extract 0 e)),.v (.int .i64 10),.v (.int .i64 64)] H (bn H (.dH [.v (.int .i64 nv),.v .nilIface])))(his:∀H,bO ga gb H->F Tryz.prog 107 [.v .nilIface,.v (.iface 204 (.pointer (some ga)))] H (bn H (.v (.bool false))))(hd:aK G [bN p s q d]):F Tryz.prog 83 [.ptr p 0] (aB G [bN p s q d]) (RO (.dH [.agg (aN (qO nv)),.v .nilIface]) [bN p s (q+e) d] G):=by
 obtain⟨hs,hq,he1,he2,hx,_,hc0,hb0⟩:=hw
 obtain⟨hx1,hx2⟩:=hE
 have hr:=cz p s q d hs hq
 have hz:(s.extract q s.size).size=s.size-q:=by rw[ByteArray.size_extract];omega
 have qQ:=bW (s.extract q s.size) jq
 rw[hb0] at qQ
 have lI:=iD hG
 obtain⟨h11,h48⟩:=hno
 subst h11
 have hnu:=Ia nv
 generalize s.extract q s.size=u at*
 unfold bN at hd⊢
 refine aA (n:=72) (H0:=G) (M:=[(p,.box 60 (gu s q d))]) Tryz.func83 (by kernel_rfl) U (by rw[Tryz.ntmps83];rfl) hd<|?_
 focus
  refine Q.rg<|S.dd<|D.al z27 U U U λp2=>Q.as U<|Q.nt<|Q.rg<|Q.mv U<|S.qu (Z.aQ U U (λhd=>hr _ (hd.at_ (k:=1) U)))<|Q.as U<|Q.nt<|Q.rg<|Q.mv U<|S.qu (Z.slt (p:=u) (m:=1) (m':=u.size) Tryz.underlying9 U (.lo U) (by omega) (by omega))<|S.qu (Z.call U U (λH=>hx H))<|S.qu (Z.add (r:=(e:Int)) U U (Eq.trans (IntWalk.i64_in _ (by omega)) (by omega)))<|Q.as U<|Q.nt<|S.sq<|Q.rg<|Q.mv U<|Q.bi U U U<|Q.nt<|S.cF U (bf (by omega))<|UW.skip<|UQ.then<|Q.rg<|Q.mv U<|Q.mv U<|S.qu (Z.slt (p:=u) (m:=0) (m':=e) Tryz.underlying9 U (.hi U) (by omega) (by omega))<|S.qu (Z.bU U U (λH hS=>hpi H (hG.mono hS)))<|Q.mv U<|S.qu (Z.ex U U)<|S.qu (Z.ex U U)<|Q.as U<|Q.as U<|Q.nt<|S.sq<|UW.block<|S.sq<|Q.rg<|Q.mv U<|S.qu (Z.MF xW U lI)<|S.qu (Z.bU U U (λH hS=>his H (hG.mono hS)))<|Q.as U<|Q.nt<|S.cF U U<|Q.rg<|Q.mv U<|S.qu (Z.call U U (λH=>qQ H))<|Q.as U<|Q.nt<|?_
  refine S.cF U U<|S.rg<|Q.mv U<|S.qu (Z.eq (u':=.v (.int .u8 c0)) (Z.is (p:=u) (i:=0) Tryz.underlying9 U U (by omega) (by omega)) (by rw[hc0]))<|?_
  refine Q.bi U U U<|Q.mv U<|?_
  refine S.tE 34 (λhc34=>?_) (λhc34=>?_)
  refine Q.on (Z.mv U)<|Q.on (Z.bi U U U)<|Q.pk U U<|Q.as U<|Q.nt<|S.cF U (decide_eq_false (by omega))<|S.sq<|Q.rg<|Q.mv U<|S.qu (Z.BK U)<|Q.as U<|Q.nt<|S.cF U U<|Q.rg<|Q.mv U<|Q.bi U U U<|Q.as U<|Q.nt<|S.cF U (decide_eq_false (by omega))<|Q.rg<|Q.mv U<|Q.bi U U U<|Q.as U<|Q.nt<|S.cF U (decide_eq_false (by omega))<|S.rg<|Q.mv U<|Q.mv U<|S.qu (Z.fC Tryz.underlying9 U)<|Q.bi U U U<|Q.mv U<|?_
  refine S.tD 52 (λBp=>?_) (λBp=>?_)
  rotate_left
  omega
  rotate_right
  refine Q.on (Z.mv U)<|Q.on (Z.mv U)<|Q.on (Z.eq (u':=.v (.int .u8 cx)) (Z.is (p:=u) (i:=(e:Int)) Tryz.underlying9 U U (by omega) (by omega)) (by rw[hcx]))<|?_
  refine Q.on (Z.call U U (λH=>hib H))<|Q.on (Z.bi U U U)<|Q.pk U U<|Q.as U<|Q.nt<|S.cF U (decide_eq_false (by omega))<|UW.skip<|UQ.aI<|UQ.then<|Q.rg<|Q.mv U<|S.qu (Z.iC U)<|Q.fa eu U<|Q.lc 1 bC U U U<|Q.mv U<|S.qu (Z.add (r:=((q+e:Nat):Int)) U U (IntWalk.i64_in _ (by omega)))<|S.qu (Z.iC U)<|Q.fa eu U<|S.s<|D.st 1 bC U U U U U U U U λ_=>Q.nt<|Q.rg<|Q.mv U<|S.qu (Z.call U U (λH=>hnu H))<|S.s<|D.st 0 ay U U U U U U U U λ_=>Q.as U<|Q.nt<|UW.ret<|?_
  rotate_left
  refine Q.of<|Q.of<|Q.pk U U<|Q.as U<|Q.nt<|S.cF U U<|S.sq<|Q.rg<|Q.mv U<|S.qu (Z.BK U)<|Q.as U<|Q.nt<|S.cF U U<|Q.rg<|Q.mv U<|Q.bi U U U<|Q.as U<|Q.nt<|S.cF U (decide_eq_false (by omega))<|Q.rg<|Q.mv U<|Q.bi U U U<|Q.as U<|Q.nt<|S.cF U (decide_eq_false (by omega))<|S.rg<|Q.mv U<|Q.mv U<|S.qu (Z.fC Tryz.underlying9 U)<|Q.bi U U U<|Q.mv U<|?_
  refine S.tD 52 (λBp=>?_) (λBp=>?_)
  rotate_left
  omega
  rotate_right
  refine Q.on (Z.mv U)<|Q.on (Z.mv U)<|Q.on (Z.eq (u':=.v (.int .u8 cx)) (Z.is (p:=u) (i:=(e:Int)) Tryz.underlying9 U U (by omega) (by omega)) (by rw[hcx]))<|?_
  refine Q.on (Z.call U U (λH=>hib H))<|Q.on (Z.bi U U U)<|Q.pk U U<|Q.as U<|Q.nt<|S.cF U (decide_eq_false (by omega))<|UW.skip<|UQ.aI<|UQ.then<|Q.rg<|Q.mv U<|S.qu (Z.iC U)<|Q.fa eu U<|Q.lc 1 bC U U U<|Q.mv U<|S.qu (Z.add (r:=((q+e:Nat):Int)) U U (IntWalk.i64_in _ (by omega)))<|S.qu (Z.iC U)<|Q.fa eu U<|S.s<|D.st 1 bC U U U U U U U U λ_=>Q.nt<|Q.rg<|Q.mv U<|S.qu (Z.call U U (λH=>hnu H))<|S.s<|D.st 0 ay U U U U U U U U λ_=>Q.as U<|Q.nt<|UW.ret<|?_
  rotate_left
 all_goals exact bD [_] (λhd=>ax U (av (k:=0) hd U U bH bI) (Y U)) (by repeat (first|exact List.Sublist.refl _|exact List.nil_sublist _|refine .cons_cons _ ?_|refine .cons _ ?_)) λhd=>⟨_,hd,rfl,rfl,rfl⟩
theorem O8(p:Nat)(s:ByteArray)(q d e:Nat)(x c0:Int)(b0:Bool)(hw:xu s q e x c0 b0)(hE:x= -1/\q+e=s.size)(nv:Int)(hno:b0=false/\(c0=48->e<=1))(Cj: -9007199254740991<=nv/\nv<=9007199254740991)(cx:Int)(hcx:aO (s.extract q s.size) (e:Int)=cx)(ib:Int)(hib:∀H,F Tryz.prog 108 [.v (.string MU),.v (.int .u8 cx)] H (bn H (.v (.int .i64 ib))))(O6:q+e<s.size->ib<0)(G:Hp){ga gb:Addr}(hG:bO ga gb G)(hpi:∀H,bO ga gb H->F Tryz.prog 106 [.v (.string ((s.extract q s.size).extract 0 e)),.v (.int .i64 10),.v (.int .i64 64)] H (bn H (.dH [.v (.int .i64 nv),.v .nilIface])))(his:∀H,bO ga gb H->F Tryz.prog 107 [.v .nilIface,.v (.iface 204 (.pointer (some ga)))] H (bn H (.v (.bool false))))(hd:aK G [bN p s q d]):F Tryz.prog 83 [.ptr p 0] (aB G [bN p s q d]) (RO (.dH [.agg (aN (qO nv)),.v .nilIface]) [bN p s (q+e) d] G):=by
 obtain⟨hs,hq,he1,he2,hx,_,hc0,hb0⟩:=hw
 obtain⟨hx1,hx2⟩:=hE
 have hr:=cz p s q d hs hq
 have hz:(s.extract q s.size).size=s.size-q:=by rw[ByteArray.size_extract];omega
 have qQ:=bW (s.extract q s.size) jq
 rw[hb0] at qQ
 have lI:=iD hG
 obtain⟨h11,h48⟩:=hno
 subst h11
 have hnu:=Ia nv
 generalize s.extract q s.size=u at*
 unfold bN at hd⊢
 refine aA (n:=72) (H0:=G) (M:=[(p,.box 60 (gu s q d))]) Tryz.func83 (by kernel_rfl) U (by rw[Tryz.ntmps83];rfl) hd<|?_
 focus
  refine Q.rg<|S.dd<|D.al z27 U U U λp2=>Q.as U<|Q.nt<|Q.rg<|Q.mv U<|S.qu (Z.aQ U U (λhd=>hr _ (hd.at_ (k:=1) U)))<|Q.as U<|Q.nt<|Q.rg<|Q.mv U<|S.qu (Z.slt (p:=u) (m:=1) (m':=u.size) Tryz.underlying9 U (.lo U) (by omega) (by omega))<|S.qu (Z.call U U (λH=>hx H))<|S.qu (Z.add (r:=0) U U (Eq.trans (IntWalk.i64_in _ (by omega)) (by omega)))<|Q.as U<|Q.nt<|S.sq<|Q.rg<|Q.mv U<|Q.bi U U U<|Q.nt<|S.cT U (cZ (by omega))<|S.rg<|Q.mv U<|S.qu (Z.eq (u':=.v (.int .i64 ((e:Nat):Int))) (Z.fC Tryz.underlying9 U) (by rw[hz];congr 2;omega))<|?_
  refine Q.as U<|Q.nt<|Q.rg<|Q.mv U<|Q.mv U<|S.qu (Z.slt (p:=u) (m:=0) (m':=e) Tryz.underlying9 U (.hi U) (by omega) (by omega))<|S.qu (Z.bU U U (λH hS=>hpi H (hG.mono hS)))<|Q.mv U<|S.qu (Z.ex U U)<|S.qu (Z.ex U U)<|Q.as U<|Q.as U<|Q.nt<|S.sq<|UW.block<|S.sq<|Q.rg<|Q.mv U<|S.qu (Z.MF xW U lI)<|S.qu (Z.bU U U (λH hS=>his H (hG.mono hS)))<|Q.as U<|Q.nt<|S.cF U U<|Q.rg<|Q.mv U<|S.qu (Z.call U U (λH=>qQ H))<|Q.as U<|Q.nt<|S.cF U U<|S.rg<|Q.mv U<|S.qu (Z.eq (u':=.v (.int .u8 c0)) (Z.is (p:=u) (i:=0) Tryz.underlying9 U U (by omega) (by omega)) (by rw[hc0]))<|?_
  refine Q.bi U U U<|Q.mv U<|?_
  refine S.tE 34 (λhc34=>?_) (λhc34=>?_)
  refine Q.on (Z.mv U)<|Q.on (Z.bi U U U)<|Q.pk U U<|Q.as U<|Q.nt<|S.cF U (decide_eq_false (by omega))<|S.sq<|Q.rg<|Q.mv U<|S.qu (Z.BK U)<|Q.as U<|Q.nt<|S.cF U U<|Q.rg<|Q.mv U<|Q.bi U U U<|Q.as U<|Q.nt<|S.cF U (decide_eq_false (by omega))<|Q.rg<|Q.mv U<|Q.bi U U U<|Q.as U<|Q.nt<|S.cF U (decide_eq_false (by omega))<|S.rg<|Q.mv U<|Q.mv U<|S.qu (Z.fC Tryz.underlying9 U)<|Q.bi U U U<|Q.mv U<|?_
  refine S.tD 52 (λBp=>?_) (λBp=>?_)
  omega
  refine Q.of<|Q.of<|Q.of<|Q.of<|Q.of<|Q.pk U U<|Q.as U<|Q.nt<|S.cF U U<|UW.skip<|UQ.aI<|UQ.then<|Q.rg<|Q.mv U<|S.qu (Z.iC U)<|Q.fa eu U<|Q.lc 1 bC U U U<|Q.mv U<|S.qu (Z.add (r:=((q+e:Nat):Int)) U U (IntWalk.i64_in _ (by omega)))<|S.qu (Z.iC U)<|Q.fa eu U<|S.s<|D.st 1 bC U U U U U U U U λ_=>Q.nt<|Q.rg<|Q.mv U<|S.qu (Z.call U U (λH=>hnu H))<|S.s<|D.st 0 ay U U U U U U U U λ_=>Q.as U<|Q.nt<|UW.ret<|?_
  rotate_left
  refine Q.of<|Q.of<|Q.pk U U<|Q.as U<|Q.nt<|S.cF U U<|S.sq<|Q.rg<|Q.mv U<|S.qu (Z.BK U)<|Q.as U<|Q.nt<|S.cF U U<|Q.rg<|Q.mv U<|Q.bi U U U<|Q.as U<|Q.nt<|S.cF U (decide_eq_false (by omega))<|Q.rg<|Q.mv U<|Q.bi U U U<|Q.as U<|Q.nt<|S.cF U (decide_eq_false (by omega))<|S.rg<|Q.mv U<|Q.mv U<|S.qu (Z.fC Tryz.underlying9 U)<|Q.bi U U U<|Q.mv U<|?_
  refine S.tD 52 (λBp=>?_) (λBp=>?_)
  omega
  refine Q.of<|Q.of<|Q.of<|Q.of<|Q.of<|Q.pk U U<|Q.as U<|Q.nt<|S.cF U U<|UW.skip<|UQ.aI<|UQ.then<|Q.rg<|Q.mv U<|S.qu (Z.iC U)<|Q.fa eu U<|Q.lc 1 bC U U U<|Q.mv U<|S.qu (Z.add (r:=((q+e:Nat):Int)) U U (IntWalk.i64_in _ (by omega)))<|S.qu (Z.iC U)<|Q.fa eu U<|S.s<|D.st 1 bC U U U U U U U U λ_=>Q.nt<|Q.rg<|Q.mv U<|S.qu (Z.call U U (λH=>hnu H))<|S.s<|D.st 0 ay U U U U U U U U λ_=>Q.as U<|Q.nt<|UW.ret<|?_
  rotate_left
 all_goals exact bD [_] (λhd=>ax U (av (k:=0) hd U U bH bI) (Y U)) (by repeat (first|exact List.Sublist.refl _|exact List.nil_sublist _|refine .cons_cons _ ?_|refine .cons _ ?_)) λhd=>⟨_,hd,rfl,rfl,rfl⟩
end Go.Proofs.YtbooeongacgnbaaGreatDoor
end
