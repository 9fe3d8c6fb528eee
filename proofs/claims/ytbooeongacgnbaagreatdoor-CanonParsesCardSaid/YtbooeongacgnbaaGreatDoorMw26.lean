/- A part of the proof. -/
import Derived.Test.YtbooeongacgnbaaGreatDoorMw25
import Derived.Shelf.Strings.CaseAny
import Derived.Lib.MapLaws
set_option maxRecDepth 100000
set_option maxHeartbeats 4000000
set_option linter.unusedSectionVars false
set_option linter.unusedVariables false
set_option linter.unusedSimpArgs false
section
namespace Go.Proofs.YtbooeongacgnbaaGreatDoor
open Go Go.gW Go.RowKit
def zf(r:Int):AV:=if 0<=r then .dH [.v (.int .i32 r),.v (.bool true)] else .dH [.v (.int .i32 0),.v (.bool false)]
theorem Bf(c:Int)(h0:0<=c)(H:Hp):F Tryz.prog 148 [.v (.int .i32 c)] H (bn H (zf (eH c))):=by
 by_cases h1:c=34\/c=92\/c=47
 ·have:zf (eH c)=.dH [.v (.int .i32 c),.v (.bool true)]:=by unfold zf eH;rw[if_pos h1,if_pos h0]
  rw[this]
  refine aA (n:=20) (H0:=H) (M:=[]) Tryz.func148 (by kernel_rfl) U (by rw[Tryz.ntmps148];rfl) .nil<|?_
  refine Q.rg<|Q.as U<|Q.as U<|Q.nt<|S.sq<|Q.rg<|Q.mv U<|Q.nt<|UW.block<|S.sq<|Q.rg<|Q.bi U U U<|Q.as U<|Q.nt<|?_
  refine S.cE U (λXE=>?_) (λXE=>?_)
  refine UW.skip<|UQ.then<|S.cT U (cZ (by omega))<|Q.rg<|Q.mv U<|Q.as U<|Q.as U<|Q.nt<|UW.ret<|UQ.az<|UQ.aj<|S.bG (λhd=>ax U (Y U) (Y U))<|?_
  rfl
  refine Q.rg<|Q.bi U U U<|Q.as U<|Q.nt<|?_
  refine S.cE U (λXE=>?_) (λXE=>?_)
  refine UW.skip<|UQ.then<|S.cT U (cZ (by omega))<|Q.rg<|Q.mv U<|Q.as U<|Q.as U<|Q.nt<|UW.ret<|UQ.az<|UQ.aj<|S.bG (λhd=>ax U (Y U) (Y U))<|?_
  rfl
  refine S.rg<|Q.bi U U U<|Q.as U<|Q.nt<|S.cT U (cZ (by omega))<|Q.rg<|Q.mv U<|Q.as U<|Q.as U<|Q.nt<|UW.ret<|UQ.az<|UQ.aj<|S.bG (λhd=>ax U (Y U) (Y U))<|?_
  rfl
 ·by_cases h2:c=98
  ·subst h2
   refine aA (n:=20) (H0:=H) (M:=[]) Tryz.func148 (by kernel_rfl) U (by rw[Tryz.ntmps148];rfl) .nil<|?_
   refine Q.rg<|Q.as U<|Q.as U<|Q.nt<|S.sq<|Q.rg<|Q.mv U<|Q.nt<|UW.block<|S.sq<|Q.rg<|Q.bi U U U<|Q.as U<|Q.nt<|S.cF U (bf (by omega))<|Q.rg<|Q.bi U U U<|Q.as U<|Q.nt<|S.cF U (bf (by omega))<|S.rg<|Q.bi U U U<|Q.as U<|Q.nt<|S.cF U (bf (by omega))<|Q.rg<|Q.bi U U U<|Q.as U<|Q.nt<|S.cT U (cZ (by omega))<|Q.rg<|Q.as U<|Q.as U<|Q.nt<|UW.ret<|UQ.az<|UQ.aj<|S.bG (λhd=>ax U (Y U) (Y U))<|?_
   rfl
  ·by_cases h3:c=102
   ·subst h3
    refine aA (n:=20) (H0:=H) (M:=[]) Tryz.func148 (by kernel_rfl) U (by rw[Tryz.ntmps148];rfl) .nil<|?_
    refine Q.rg<|Q.as U<|Q.as U<|Q.nt<|S.sq<|Q.rg<|Q.mv U<|Q.nt<|UW.block<|S.sq<|Q.rg<|Q.bi U U U<|Q.as U<|Q.nt<|S.cF U (bf (by omega))<|Q.rg<|Q.bi U U U<|Q.as U<|Q.nt<|S.cF U (bf (by omega))<|S.rg<|Q.bi U U U<|Q.as U<|Q.nt<|S.cF U (bf (by omega))<|Q.rg<|Q.bi U U U<|Q.as U<|Q.nt<|S.cF U (bf (by omega))<|Q.rg<|Q.bi U U U<|Q.as U<|Q.nt<|S.cT U (cZ (by omega))<|Q.rg<|Q.as U<|Q.as U<|Q.nt<|UW.ret<|UQ.az<|UQ.aj<|S.bG (λhd=>ax U (Y U) (Y U))<|?_
    rfl
   ·by_cases h4:c=110
    ·subst h4
     refine aA (n:=20) (H0:=H) (M:=[]) Tryz.func148 (by kernel_rfl) U (by rw[Tryz.ntmps148];rfl) .nil<|?_
     refine Q.rg<|Q.as U<|Q.as U<|Q.nt<|S.sq<|Q.rg<|Q.mv U<|Q.nt<|UW.block<|S.sq<|Q.rg<|Q.bi U U U<|Q.as U<|Q.nt<|S.cF U (bf (by omega))<|Q.rg<|Q.bi U U U<|Q.as U<|Q.nt<|S.cF U (bf (by omega))<|S.rg<|Q.bi U U U<|Q.as U<|Q.nt<|S.cF U (bf (by omega))<|Q.rg<|Q.bi U U U<|Q.as U<|Q.nt<|S.cF U (bf (by omega))<|Q.rg<|Q.bi U U U<|Q.as U<|Q.nt<|S.cF U (bf (by omega))<|Q.rg<|Q.bi U U U<|Q.as U<|Q.nt<|S.cT U (cZ (by omega))<|Q.rg<|Q.as U<|Q.as U<|Q.nt<|UW.ret<|UQ.az<|UQ.aj<|S.bG (λhd=>ax U (Y U) (Y U))<|?_
     rfl
    ·by_cases h5:c=114
     ·subst h5
      refine aA (n:=20) (H0:=H) (M:=[]) Tryz.func148 (by kernel_rfl) U (by rw[Tryz.ntmps148];rfl) .nil<|?_
      refine Q.rg<|Q.as U<|Q.as U<|Q.nt<|S.sq<|Q.rg<|Q.mv U<|Q.nt<|UW.block<|S.sq<|Q.rg<|Q.bi U U U<|Q.as U<|Q.nt<|S.cF U (bf (by omega))<|Q.rg<|Q.bi U U U<|Q.as U<|Q.nt<|S.cF U (bf (by omega))<|S.rg<|Q.bi U U U<|Q.as U<|Q.nt<|S.cF U (bf (by omega))<|Q.rg<|Q.bi U U U<|Q.as U<|Q.nt<|S.cF U (bf (by omega))<|Q.rg<|Q.bi U U U<|Q.as U<|Q.nt<|S.cF U (bf (by omega))<|Q.rg<|Q.bi U U U<|Q.as U<|Q.nt<|S.cF U (bf (by omega))<|Q.rg<|Q.bi U U U<|Q.as U<|Q.nt<|S.cT U (cZ (by omega))<|?_
      refine Q.rg<|Q.as U<|Q.as U<|Q.nt<|UW.ret<|UQ.az<|UQ.aj<|S.bG (λhd=>ax U (Y U) (Y U))<|?_
      rfl
     ·by_cases h6:c=116
      ·subst h6
       refine aA (n:=20) (H0:=H) (M:=[]) Tryz.func148 (by kernel_rfl) U (by rw[Tryz.ntmps148];rfl) .nil<|?_
       refine Q.rg<|Q.as U<|Q.as U<|Q.nt<|S.sq<|Q.rg<|Q.mv U<|Q.nt<|UW.block<|S.sq<|Q.rg<|Q.bi U U U<|Q.as U<|Q.nt<|S.cF U (bf (by omega))<|Q.rg<|Q.bi U U U<|Q.as U<|Q.nt<|S.cF U (bf (by omega))<|S.rg<|Q.bi U U U<|Q.as U<|Q.nt<|S.cF U (bf (by omega))<|Q.rg<|Q.bi U U U<|Q.as U<|Q.nt<|S.cF U (bf (by omega))<|Q.rg<|Q.bi U U U<|Q.as U<|Q.nt<|S.cF U (bf (by omega))<|Q.rg<|Q.bi U U U<|Q.as U<|Q.nt<|S.cF U (bf (by omega))<|Q.rg<|Q.bi U U U<|Q.as U<|Q.nt<|S.cF U (bf (by omega))<|?_
       refine Q.rg<|Q.bi U U U<|Q.as U<|Q.nt<|S.cT U (cZ (by omega))<|Q.rg<|Q.as U<|Q.as U<|Q.nt<|UW.ret<|UQ.az<|UQ.aj<|S.bG (λhd=>ax U (Y U) (Y U))<|?_
       rfl
      ·have:zf (eH c)=.dH [.v (.int .i32 0),.v (.bool false)]:=by unfold zf eH;rw[if_neg h1,if_neg h2,if_neg h3,if_neg h4,if_neg h5,if_neg h6,if_neg (by decide)]
       rw[this]
       refine aA (n:=20) (H0:=H) (M:=[]) Tryz.func148 (by kernel_rfl) U (by rw[Tryz.ntmps148];rfl) .nil<|?_
       refine Q.rg<|Q.as U<|Q.as U<|Q.nt<|S.sq<|Q.rg<|Q.mv U<|Q.nt<|UW.block<|S.sq<|Q.rg<|Q.bi U U U<|Q.as U<|Q.nt<|S.cF U (bf (by omega))<|Q.rg<|Q.bi U U U<|Q.as U<|Q.nt<|S.cF U (bf (by omega))<|S.rg<|Q.bi U U U<|Q.as U<|Q.nt<|S.cF U (bf (by omega))<|Q.rg<|Q.bi U U U<|Q.as U<|Q.nt<|S.cF U (bf (by omega))<|Q.rg<|Q.bi U U U<|Q.as U<|Q.nt<|S.cF U (bf (by omega))<|Q.rg<|Q.bi U U U<|Q.as U<|Q.nt<|S.cF U (bf (by omega))<|Q.rg<|Q.bi U U U<|Q.as U<|Q.nt<|S.cF U (bf (by omega))<|?_
       refine Q.rg<|Q.bi U U U<|Q.as U<|Q.nt<|S.cF U (bf (by omega))<|UW.skip<|UQ.aI<|UQ.then<|Q.rg<|Q.as U<|Q.as U<|Q.nt<|UW.ret<|S.bG (λhd=>ax U (Y U) (Y U))<|?_
       rfl
theorem Bg(r:Int)(H:Hp):F Tryz.prog 158 [.v (.int .i32 r)] H (bn H (.v (.bool (Lib.validRune r)))):=
 F.iU ⟨_,Tryz.func158,by kernel_rfl,by kernel_rfl⟩ λρ w vals hh hr=>by
  obtain⟨hl,hr⟩:=hr
  match vals,hl,hr with
  |[x],hl,hr=>
   have e1:=aP (hr 0 _ _ U U)
   subst e1
   refine(Tryz.utf8_ValidRune r w).mono<|?_
   rintro e w' ⟨he,rfl⟩
   exact⟨he,Below.refl _ _⟩
theorem OM:∀n:Fin 16,(Utf8.decode eD n.val).2=1/\(Utf8.decode eD n.val).1<128:=by decide
theorem OO:∀n:Fin 16,aO eD (n.val:Int)<128:=by decide
theorem indexByte_none:∀(l:List UInt8) (c:UInt8),(∀b∈l,b≠c)->Lib.indexByte l c= -1
 |[],_,_=>rfl
 |b::l,c,h=>by
  unfold Lib.indexByte
  rw[indexByte_none l c λx hx=>h x (List.mem_cons_of_mem _ hx),if_neg (by rw[beq_iff_eq];exact h b (List.mem_cons_self ..))]
  rfl
theorem HV:∀b∈eD.data.toList,b.toNat<128:=by decide
theorem Cb(H:Hp):F Tryz.prog 138 [.v (.string eD),.v (.int .i32 65533)] H (bn H (.v (.int .i64 (-1)))):=by
 refine aA (n:=187) (H0:=H) (M:=[]) Tryz.func138 (by kernel_rfl) U (by rw[Tryz.ntmps138];rfl) .nil<|?_
 focus
  refine Q.rg<|Q.as U<|Q.nt<|UW.block<|Q.rg<|Q.mv U<|Q.bi U U U<|Q.mv U<|?_
  refine S.tD 163 (λHY=>?_) (λHY=>?_)
  rotate_left
  omega
  refine Q.on (Z.mv U)<|Q.on (Z.bi U U U)<|Q.pk U U<|Q.as U<|Q.nt<|S.cF U (decide_eq_false (by omega))<|Q.rg<|Q.mv U<|Q.bi U U U<|Q.as U<|Q.nt<|S.cT U (cZ (by omega))<|S.sq<|Q.rg<|Q.mv U<|S.dd<|D.rg Tryz.underlying9 U λXF=>Q.nt<|UW.block<|?_
 refine S.loop (λk:Nat=>[(175,.ptr XF 0)]) (λk=>[(XF,.iter eD k)]) (λk=>k<=16) (λk=>16-k) 0 (Nat.zero_le _) ⟨rfl,trivial⟩ (.refl _)<|?_
 intro k hk
 by_cases hlt:k<16
 ·obtain⟨h1,h2⟩:=OM ⟨k,hlt⟩
  dsimp only at h1 h2
  have hsz:eD.size=16:=rfl
  generalize hd:Utf8.decode eD k=dd at*
  obtain⟨r,m⟩:=dd
  dsimp only at h1 h2
  subst h1
  refine Q.rg<|S.dd<|D.nx 0 U U (by omega) (by rw[hd])<|?_
  rw[hd]
  refine S.qu (Z.ex U U)<|Q.nt<|S.sq<|S.cT U U<|UW.skip<|UQ.then<|UW.block<|Q.rg<|S.qu (Z.ex U U)<|S.qu (Z.ex U U)<|Q.as U<|Q.as U<|Q.nt<|Q.rg<|Q.mv U<|Q.bi U U U<|Q.nt<|S.cF U (bf (by omega))<|UW.skip<|UQ.aI<|?_
  refine S.back (k+1) ⟨rfl,trivial⟩ (.refl _) (by omega) (by omega)
 ·have:k=16:=by omega
  subst this
  refine Q.rg<|?_
  refine S.dd (D.nxs 0 U U U (λZa=>?_) (λZa=>?_))
  contradiction
  refine S.qu (Z.ex U U)<|Q.nt<|S.sq<|S.cF U U<|UW.exit<|UQ.pass<|UQ.pass<|UQ.here<|UQ.then<|Q.rg<|Q.as U<|Q.nt<|UW.ret<|UQ.az<|S.bG (λ_=>au U U)<|?_
  rfl
theorem Kc(r:Int):Lib.validRune r=Utf8.valid r:=by
 unfold Lib.validRune Utf8.valid
 rw[Bool.eq_iff_iff]
 simp only[decide_eq_true_eq,Bool.or_eq_true,Bool.and_eq_true]
 omega
theorem FD(r:Int)(h1:128<=r)(h2:r<=2147483647)(H:Hp):F Tryz.prog 138 [.v (.string eD),.v (.int .i32 r)] H (bn H (.v (.int .i64 (-1)))):=by
 by_cases h3:r=65533
 ·subst h3;exact Cb H
 ·have hv:=Bg r
  cases hb:Lib.validRune r with
  |false=>
   rw[hb] at hv
   refine aA (n:=187) (H0:=H) (M:=[]) Tryz.func138 (by kernel_rfl) U (by rw[Tryz.ntmps138];rfl) .nil<|?_
   focus
    refine Q.rg<|Q.as U<|Q.nt<|UW.block<|Q.rg<|Q.mv U<|Q.bi U U U<|Q.mv U<|?_
    refine S.tD 163 (λHY=>?_) (λHY=>?_)
    rotate_left
    omega
    refine Q.on (Z.mv U)<|Q.on (Z.bi U U U)<|Q.pk U U<|Q.as U<|Q.nt<|S.cF U (decide_eq_false (by omega))<|Q.rg<|Q.mv U<|Q.bi U U U<|Q.as U<|Q.nt<|S.cF U (bf (by omega))<|Q.rg<|Q.mv U<|S.qu (Z.call U U (λH=>hv H))<|S.qu (Z.not U)<|Q.as U<|Q.nt<|S.cT U U<|Q.rg<|Q.as U<|Q.nt<|UW.ret<|UQ.az<|S.bG (λ_=>au U U)<|?_
    rfl
  |true=>
   rw[hb] at hv
   rw[Kc] at hb
   obtain⟨e1,e2,e3⟩:=encode_facts r hb h1
   generalize hen:Utf8.encode r=u at*
   have hl:=gG u ((u.size-1:Nat):Int)
   have hu:128<=aO u ((u.size-1:Nat):Int):=by
    have:=e3 (by omega)
    rw[jb u (u.size-1) (by omega)]
    exact Int.ofNat_le.2 this
   have hlow:=OO ⟨u.size-1,by omega⟩
   dsimp only at hlow
   have hix:Lib.indexByte (eD.extract (u.size-1+1) eD.size).data.toList (aO u ((u.size-1:Nat):Int)).toNat.toUInt8= -1:=by
    refine indexByte_none _ _ λb hb e=>?_
    have hm:b∈eD.data.toList:=by
     have h4:=bZ eD (u.size-1+1) eD.size
     unfold bl at h4
     rw[h4] at hb
     exact List.mem_of_mem_drop (List.mem_of_mem_take hb)
    have h5:=HV b hm
    rw[e] at h5
    have h6:=zB hl.1 hl.2
    have h7:((aO u ((u.size-1:Nat):Int)).toNat.toUInt8).toNat=(aO u ((u.size-1:Nat):Int)).toNat:=by
     show(UInt8.ofNat _).toNat=_
     rw[UInt8.toNat_ofNat',Nat.mod_eq_of_lt (by omega)]
    omega
   have hc:=rH (eD.extract (u.size-1+1) eD.size) (aO u ((u.size-1:Nat):Int))
   rw[hix] at hc
   have hsz:eD.size=16:=rfl
   generalize ZP:aO u ((u.size-1:Nat):Int)=c at*
   refine aA (n:=187) (H0:=H) (M:=[]) Tryz.func138 (by kernel_rfl) U (by rw[Tryz.ntmps138];rfl) .nil<|?_
   focus
    refine Q.rg<|Q.as U<|Q.nt<|UW.block<|Q.rg<|Q.mv U<|Q.bi U U U<|Q.mv U<|?_
    refine S.tD 163 (λHY=>?_) (λHY=>?_)
    rotate_left
    omega
    refine Q.on (Z.mv U)<|Q.on (Z.bi U U U)<|Q.pk U U<|Q.as U<|Q.nt<|S.cF U (decide_eq_false (by omega))<|Q.rg<|Q.mv U<|Q.bi U U U<|Q.as U<|Q.nt<|S.cF U (bf (by omega))<|Q.rg<|Q.mv U<|S.qu (Z.call U U (λH=>hv H))<|S.qu (Z.not U)<|Q.as U<|Q.nt<|S.cF U U<|UW.scope<|Q.rg<|Q.mv U<|S.qu (Z.eq (u':=.v (.string u)) (Z.r2s Tryz.underlying9 U (by rfl)) (by rw[hen]))<|?_
    refine Q.as U<|Q.nt<|Q.rg<|Q.mv U<|S.qu (Z.fC Tryz.underlying9 U)<|S.qu (Z.sub (r:=((u.size-1:Nat):Int)) U U (Eq.trans (IntWalk.i64_in _ (by omega)) (by omega)))<|Q.as U<|Q.nt<|Q.rg<|Q.mv U<|Q.as U<|Q.nt<|Q.rg<|Q.as U<|Q.nt<|S.sq<|UW.block<|?_
   refine S.loop (λ_:Unit=>[(10,.v (.int .i64 0)),(9,.v (.int .i64 ((u.size-1:Nat):Int))),(8,.v (.int .i64 ((u.size-1:Nat):Int))),(7,.v (.string u)),(0,.v (.string eD))]) (λ_=>[]) (λ_=>True) (λ_=>0) () trivial ⟨rfl,rfl,rfl,rfl,rfl,trivial⟩ (.refl _)<|?_
   intro _ _
   refine S.sq<|Q.rg<|Q.mv U<|Q.mv U<|S.qu (Z.fC Tryz.underlying9 U)<|Q.bi U U U<|Q.nt<|S.cT U (decide_eq_true (by omega))<|UW.skip<|UQ.then<|UW.block<|UW.scope<|S.sq<|S.sq<|?_
   refine' UW.dC (by kernel_rfl) [0,0,3,0,0,24,63] [some 27,some 28,some 29,some 30,some 31,some 32,some 33] [some (27,_),some (28,_),some (29,_),some (30,_),some (31,_),some (32,_),some (33,_)] [] [] U (by decide) (by decide) (I.free (by decide) U U ?fG (I.free (by decide) U U ?fH (I.free (by decide) U U ?iL (I.free (by decide) U U ?jF (I.free (by decide) U U ?jG (I.free (by decide) U U ?mV (I.free (by decide) U U ?mW I.nil))))))) ?lG
   case fG=>(intro _;exact Z.mv rfl)
   case fH=>(intro _;exact Z.mv rfl)
   case iL=>(intro _;exact Z.is Tryz.underlying9 rfl rfl (by omega) (by omega))
   case jF=>(intro _;exact Z.mv rfl)
   case jG=>(intro _;exact Z.mv rfl)
   case mV=>(intro _;exact Z.eq (u':=.v (.int .u8 c)) (Z.is (p:=u) (i:=((u.size-1:Nat):Int)) Tryz.underlying9 rfl rfl (by omega) (by omega)) (by rw[ZP]))
   case mW=>(intro _;exact Z.tT (Z.bi rfl rfl rfl) (by simp;omega))
   refine CH.nil<|?_
   simp only[app,bV]
   refine UQ.then<|S.cT U U<|S.sq<|?_
   refine' UW.dC (by kernel_rfl) [0,0,2,7,0,0,48,127,255] [some 34,some 35,some 36,some 37,some 38,some 39,some 40,some 41,some 11] [some (34,_),some (35,_),some (36,_),some (37,_),some (38,_),some (39,_),some (40,_),some (41,_),some (11,_)] [] [] U (by decide) (by decide) (I.free (by decide) U U ?Jq (I.free (by decide) U U ?Jr (I.free (by decide) U U ?Js (I.free (by decide) U U ?Jt (I.free (by decide) U U ?Ju (I.free (by decide) U U ?Jv (I.free (by decide) U U ?Jw (I.free (by decide) U U ?Jy (I.free (by decide) U U ?VQ I.nil))))))))) ?UI
   case Jq=>(intro _;exact Z.mv rfl)
   case Jr=>(intro _;exact Z.mv rfl)
   case Js=>(intro _;exact Z.add (r:=((u.size-1+1:Nat):Int)) rfl rfl (IntWalk.i64_in _ (by omega)))
   case Jt=>(intro _;exact Z.slt Tryz.underlying9 rfl (.lo rfl) (by omega) (by omega))
   case Ju=>(intro _;exact Z.mv rfl)
   case Jv=>(intro _;exact Z.mv rfl)
   case Jw=>(intro _;exact Z.eq (u':=.v (.int .u8 c)) (Z.is (p:=u) (i:=((u.size-1:Nat):Int)) Tryz.underlying9 rfl rfl (by omega) (by omega)) (by rw[ZP]))
   case Jy=>(intro _;exact Z.call rfl rfl (λH=>hc H))
   case VQ=>(intro _;exact Z.as rfl)
   refine CH.nil<|?_
   simp only[app,bV]
   refine UQ.then<|S.sq<|Q.rg<|Q.mv U<|Q.bi U U U<|Q.nt<|S.cT U (decide_eq_true (by omega))<|Q.rg<|Q.as U<|Q.nt<|UW.ret<|UQ.aj<|UQ.aj<|UQ.Oq<|UQ.az<|UQ.aj<|UQ.az<|UQ.aj<|UQ.Oq<|UQ.az<|S.bG (λ_=>au U U)<|?_
   rfl
def j4:ByteArray:=⟨#[92,117]⟩
theorem VR(s:ByteArray):Lib.hasPrefix s.data.toList j4.data.toList=true↔2<=s.size/\aO s 0=92/\aO s 1=117:=by
 have h0:∀h:0<(bl s).length,aO s ((0:Nat):Int)=(((bl s)[0]'h).toNat:Int):=λh=>jb s 0 h
 have h1:∀h:1<(bl s).length,aO s ((1:Nat):Int)=(((bl s)[1]'h).toNat:Int):=λh=>jb s 1 h
 show Lib.hasPrefix (bl s) [92,117]=true↔2<=(bl s).length/\_
 unfold Lib.hasPrefix
 generalize bl s=l at*
 match l,h0,h1 with
 |[],_,_=>simp
 |[a],_,_=>simp[List.isPrefixOf]
 |a::b::r,h0,h1=>
  have e0:=h0 (by simp)
  have e1:=h1 (by simp)
  have e0:aO s 0=((a.toNat:Nat):Int):=e0
  have e1:aO s 1=((b.toNat:Nat):Int):=e1
  rw[e0,e1]
  simp only[List.isPrefixOf,Bool.and_true,Bool.and_eq_true,beq_iff_eq,List.length_cons]
  constructor
  ·rintro⟨rfl,rfl⟩;exact⟨by omega,rfl,rfl⟩
  ·rintro⟨_,h2,h3⟩
   exact⟨UInt8.toNat_inj.1 (by have:(92:UInt8).toNat=92:=rfl;omega),UInt8.toNat_inj.1 (by have:(117:UInt8).toNat=117:=rfl;omega)⟩
theorem OP(s:ByteArray)(h:Lib.hasPrefix s.data.toList j4.data.toList=true):(⟨(Lib.trimPrefix s.data.toList j4.data.toList).toArray⟩:ByteArray)=s.extract 2 s.size:=by
 apply lH
 unfold Lib.trimPrefix
 rw[if_pos h,bZ]
 show List.drop 2 (bl s)=_
 rw[List.take_of_length_le]
 rw[List.length_drop];exact Nat.le_refl _
def hacc(s:ByteArray):Nat->Int
 |0=>0
 |k+1=>16*hacc s k+ed (aO s ((2+k:Nat):Int))
theorem OQ{s:ByteArray}(h:¬(Lib.hasPrefix s.data.toList j4.data.toList=true/\6<=s.size)):aR s 0= -1:=by
 unfold aR
 rw[if_neg]
 rintro⟨h1,h2,h3⟩
 exact h ⟨(VR s).2 ⟨by omega,h2,h3⟩,by omega⟩
theorem Df{s:ByteArray}{k:Nat}(hk:k<4)(h:ed (aO s ((2+k:Nat):Int))<0):aR s 0= -1:=by
 unfold aR
 split
 ·rw[if_pos]
  match k,hk with
  |0,_=>exact .inl h
  |1,_=>exact .inr (.inl h)
  |2,_=>exact .inr (.inr (.inl h))
  |3,_=>exact .inr (.inr (.inr h))
 ·rfl
theorem OT{s:ByteArray}(h1:Lib.hasPrefix s.data.toList j4.data.toList=true)(h2:6<=s.size)(h:∀k,k<4->0<=ed (aO s ((2+k:Nat):Int))):aR s 0=hacc s 4:=by
 obtain⟨_,h3,h4⟩:=(VR s).1 h1
 unfold aR
 have a0:=h 0 (by decide)
 have a1:=h 1 (by decide)
 have a2:=h 2 (by decide)
 have a3:=h 3 (by decide)
 rw[if_pos ⟨by omega,h3,h4⟩]
 show(if _\/_\/_\/_ then _ else _)=16*(16*(16*(16*0+ed (aO s ((2+0:Nat):Int)))+ed (aO s ((2+1:Nat):Int)))+ed (aO s ((2+2:Nat):Int)))+ed (aO s ((2+3:Nat):Int))
 rw[if_neg (by
  rintro(g|g|g|g)
  ·exact absurd a0 (Int.not_le.2 g)
  ·exact absurd a1 (Int.not_le.2 g)
  ·exact absurd a2 (Int.not_le.2 g)
  ·exact absurd a3 (Int.not_le.2 g))]
 show 4096*ed (aO s ((2+0:Nat):Int))+256*ed (aO s ((2+1:Nat):Int))+16*ed (aO s ((2+2:Nat):Int))+ed (aO s ((2+3:Nat):Int))=_
 omega
theorem Bh(c:Int):ed c<16/\ -1<=ed c:=by unfold ed;(repeat' split)<;>omega
theorem Lv(s:ByteArray):∀k,k<=4->(∀j,j<k->0<=ed (aO s ((2+j:Nat):Int)))->0<=hacc s k/\hacc s k<(16^k:Nat)
 |0,_,_=>⟨Int.le_refl _,by show(0:Int)<((16^0:Nat):Int);decide⟩
 |k+1,hk,h=>by
  obtain⟨h1,h2⟩:=Lv s k (by omega) λj hj=>h j (by omega)
  have h3:=h k (by omega)
  have h4:=(Bh (aO s ((2+k:Nat):Int))).1
  rw[Nat.pow_succ]
  show 0<=16*hacc s k+ed _/\16*hacc s k+ed _<_
  omega
theorem Lx:∀n:Fin 128,Lib.indexByte eD.data.toList (Lib.lowerB (UInt8.ofNat n.val))=ed (n.val:Int):=by decide+kernel
theorem RU:∀n:Fin 128,(Lib.lowerB (UInt8.ofNat n.val)).toNat<128:=by decide+kernel
theorem Zb{n h:Int}(h0:0<=n)(h1:n<4096)(h2:0<=h)(h3:h<16):IntKind.i32.wrap ((BitVec.ofInt IntKind.i32.bits (16*n)|||BitVec.ofInt IntKind.i32.bits h).toNat)=16*n+h:=by
 obtain⟨a,rfl⟩:=Int.eq_ofNat_of_zero_le h0
 obtain⟨b,rfl⟩:=Int.eq_ofNat_of_zero_le h2
 have hb:IntKind.i32.bits=32:=rfl
 rw[hb]
 have e1:BitVec.ofInt 32 (16*(a:Int))=BitVec.ofNat 32 (16*a):=by
  rw[show(16*(a:Int))=((16*a:Nat):Int) from by omega,BitVec.ofInt_natCast]
 have e2:BitVec.ofInt 32 (b:Int)=BitVec.ofNat 32 b:=BitVec.ofInt_natCast ..
 rw[e1,e2,BitVec.toNat_or,BitVec.toNat_ofNat,BitVec.toNat_ofNat,Nat.mod_eq_of_lt (by omega),Nat.mod_eq_of_lt (by omega)]
 have e3:16*a|||b=16*a+b:=by
  have:=Nat.shiftLeft_add_eq_or_of_lt (show b<2^4 by omega) a
  rw[Nat.shiftLeft_eq] at this
  rw[Nat.mul_comm 16 a]
  exact this.symm
 rw[e3,show(((16*a+b:Nat):Int))=16*(a:Int)+b from by omega]
 exact IntWalk.i32_in _ (by omega)
theorem nX{u:ByteArray}{k:Nat}(h:k<u.size)(ha:(u[k]'h).toNat<128):Utf8.decode u k=((u[k]'h).toNat,1):=decode_ascii u k h ha
theorem VS(s:ByteArray)(hs:s.size<=1000000)(h:¬(Lib.hasPrefix s.data.toList j4.data.toList=true/\6<=s.size))(H:Hp):F Tryz.prog 149 [.v (.string s)] H (bn H (zf (aR s 0))):=by
 have hc:=ja s j4
 have ht:=OP s
 have hz:(s.extract 2 s.size).size=s.size-2:=by rw[ByteArray.size_extract];omega
 rw[OQ h]
 cases hb:Lib.hasPrefix s.data.toList j4.data.toList with
 |false=>
  rw[hb] at hc
  generalize (⟨(Lib.trimPrefix s.data.toList j4.data.toList).toArray⟩:ByteArray)=r at*
  refine aA (n:=39) (H0:=H) (M:=[]) Tryz.func149 (by kernel_rfl) U (by rw[Tryz.ntmps149];rfl) .nil<|?_
  refine Q.rg<|Q.as U<|Q.as U<|Q.nt<|Q.rg<|Q.mv U<|S.qu (Z.call U U (λH=>hc H))<|Q.mv U<|S.qu (Z.ex U U)<|S.qu (Z.ex U U)<|Q.as U<|Q.as U<|Q.nt<|S.sq<|Q.rg<|Q.mv U<|S.qu (Z.not U)<|Q.mv U<|S.tT 17 U<|Q.of<|Q.of<|Q.of<|Q.pk U U<|Q.nt<|S.cT U U<|Q.rg<|Q.as U<|Q.as U<|Q.nt<|UW.ret<|UQ.aj<|S.bG (λhd=>ax U (Y U) (Y U))<|?_
  rfl
 |true=>
  have hlt:s.size<6:=Nat.not_le.1 (λg=>h ⟨hb,g⟩)
  have h2:=(VR s).1 hb
  rw[hb,ht hb] at hc
  refine aA (n:=39) (H0:=H) (M:=[]) Tryz.func149 (by kernel_rfl) U (by rw[Tryz.ntmps149];rfl) .nil<|?_
  refine Q.rg<|Q.as U<|Q.as U<|Q.nt<|Q.rg<|Q.mv U<|S.qu (Z.call U U (λH=>hc H))<|Q.mv U<|S.qu (Z.ex U U)<|S.qu (Z.ex U U)<|Q.as U<|Q.as U<|Q.nt<|S.sq<|Q.rg<|Q.mv U<|S.qu (Z.not U)<|Q.mv U<|S.tF 17 U<|Q.on (Z.mv U)<|Q.on (Z.fC Tryz.underlying9 U)<|Q.on (Z.bi U U U)<|Q.pk U U<|Q.nt<|S.cT U (decide_eq_true (by omega))<|Q.rg<|Q.as U<|Q.as U<|Q.nt<|UW.ret<|UQ.aj<|S.bG (λhd=>ax U (Y U) (Y U))<|?_
  rfl
theorem VT(l:List UInt8)(k:Nat)(h:k<(⟨(Lib.toLowerA l).toArray⟩:ByteArray).size)(h1:k<l.length):(⟨(Lib.toLowerA l).toArray⟩:ByteArray)[k]'h=Lib.lowerB (l[k]'h1):=by
 have h2:k<(Lib.toLowerA l).length:=by unfold Lib.toLowerA;rw[List.length_map];exact h1
 show((Lib.toLowerA l).toArray)[k]'h2=_
 rw[List.getElem_toArray]
 simp only[Lib.toLowerA,List.getElem_map]
theorem OU{s u:ByteArray}(hu:u=(s.extract 2 s.size).extract 0 4)(k:Nat)(hk:k<4)(hs:6<=s.size):∃h:k<(bl u).length,(((bl u)[k]'h).toNat:Int)=aO s ((2+k:Nat):Int):=by
 have e:bl u=((bl s).drop 2).take 4:=by
  rw[hu,bZ,bZ,List.drop_zero,List.take_take]
  have:min (4-0) (s.size-2)=4:=by omega
  rw[this]
 have hl:(bl u).length=4:=by
  rw[e,List.length_take,List.length_drop,iq]
  omega
 have h1:k<(bl u).length:=by rw[hl];exact hk
 have h2:2+k<(bl s).length:=by rw[iq];omega
 have h5:(bl u)[k]? =(bl s)[2+k]? :=by rw[e,List.getElem?_take,if_pos hk,List.getElem?_drop]
 rw[List.getElem?_eq_getElem h1,List.getElem?_eq_getElem h2] at h5
 injection h5 with h6
 exact⟨h1,by rw[jb s (2+k) h2,h6]⟩
theorem VU(s:ByteArray)(hs:s.size<=1000000)(hb:Lib.hasPrefix s.data.toList j4.data.toList=true)(h6:6<=s.size)(ha:∀k,k<4->aO s ((2+k:Nat):Int)<128)(H:Hp):F Tryz.prog 149 [.v (.string s)] H (bn H (zf (aR s 0))):=by
 have hc:=ja s j4
 have hz:(s.extract 2 s.size).size=s.size-2:=by rw[ByteArray.size_extract];omega
 rw[hb,OP s hb] at hc
 obtain⟨u,hu⟩:∃u,u=(s.extract 2 s.size).extract 0 4:=⟨_,rfl⟩
 have Yi:u.size=4:=by rw[hu,ByteArray.size_extract];omega
 have hin:=λk hk=>OU hu k hk h6
 have hlow:=BX u (by omega) (λj b hj=>by
  obtain⟨hlt,he⟩:=List.getElem?_eq_some_iff.1 hj
  have Xv:j<4:=by rw[<-Yi];exact hlt
  obtain⟨h1,h2⟩:=hin j Xv
  have h3:=ha j Xv
  have h4:(bl u)[j]'h1=b:=he
  rw[h4] at h2
  omega)
 -- the lowered text
 obtain⟨tl,htl⟩:∃tl:ByteArray,tl=⟨(Lib.toLowerA u.data.toList).toArray⟩:=⟨_,rfl⟩
 rw[<-htl] at hlow
 have htz:tl.size=4:=by
  rw[htl]
  show(Lib.toLowerA _).length=4
  unfold Lib.toLowerA
  rw[List.length_map]
  exact Yi
 have hdec:∀k,k<4->∃r:Nat,Utf8.decode tl k=(r,1)/\r<128/\Lib.indexByte eD.data.toList ((r:Int).toNat.toUInt8)=ed (aO s ((2+k:Nat):Int)):=by
  intro k hk
  obtain⟨h1,h2⟩:=hin k hk
  have h3:=ha k hk
  have hkt:k<tl.size:=by omega
  have h4:tl[k]'hkt=Lib.lowerB ((bl u)[k]'h1):=by
   subst htl
   exact VT (bl u) k hkt h1
  generalize (bl u)[k]'h1=x at*
  have h5:=RU ⟨x.toNat,by omega⟩
  have h6':=Lx ⟨x.toNat,by omega⟩
  dsimp only at h5 h6'
  rw[show UInt8.ofNat x.toNat=x from by simp] at h5 h6'
  have h7:(tl[k]'hkt).toNat<128:=by rw[h4];exact h5
  refine⟨(tl[k]'hkt).toNat,nX hkt h7,h7,?_⟩
  rw[h4,<-h2,<-h6']
  congr 1
  rw[Int.toNat_natCast]
  exact UInt8.toNat_inj.1 (by simp)
 rw[hu] at hlow
 have hbd:=Bh
 have hir:=λc h0 h1 H=>qN eD c h0 h1 H
 generalize (s.extract 2 s.size)=rest at*
 refine aA (n:=39) (H0:=H) (M:=[]) Tryz.func149 (by kernel_rfl) U (by rw[Tryz.ntmps149];rfl) .nil<|?_
 refine Q.rg<|Q.as U<|Q.as U<|Q.nt<|Q.rg<|Q.mv U<|S.qu (Z.call U U (λH=>hc H))<|Q.mv U<|S.qu (Z.ex U U)<|S.qu (Z.ex U U)<|Q.as U<|Q.as U<|Q.nt<|S.sq<|Q.rg<|Q.mv U<|S.qu (Z.not U)<|Q.mv U<|S.tF 17 U<|Q.on (Z.mv U)<|Q.on (Z.fC Tryz.underlying9 U)<|Q.on (Z.bi U U U)<|Q.pk U U<|Q.nt<|S.cF U (decide_eq_false (by omega))<|UW.skip<|UQ.then<|Q.rg<|Q.as U<|Q.nt<|S.sq<|Q.rg<|Q.mv U<|S.qu (Z.slt Tryz.underlying9 U (.X9 (by omega) U) (by omega) (by omega))<|S.qu (Z.call U U (λH=>hlow H))<|S.dd<|D.rg Tryz.underlying9 U λp25=>Q.nt<|UW.block<|S.loop (λj:Nat×Int=>[(25,.ptr p25 0),(6,.v (.int .i32 j.2))]) (λj=>[(p25,.iter tl j.1)]) (λj=>j.1<=4/\j.2=hacc s j.1/\∀i,i<j.1->0<=ed (aO s ((2+i:Nat):Int))) (λj=>4-j.1) (0,0) ⟨Nat.zero_le _,rfl,λi h=>absurd h (Nat.not_lt_zero _)⟩ ⟨rfl,rfl,trivial⟩ (.refl _)<|?_
 rintro⟨k,n⟩ ⟨hk,hn,hall⟩
 dsimp only at hk hn hall⊢
 obtain⟨ha1,ha2⟩:=Lv s k hk hall
 by_cases hlt:k<4
 ·obtain⟨r,hd,hr,hix⟩:=hdec k hlt
  have hi:=hir (r:Int) (by omega) (by omega)
  rw[hix] at hi
  have hb2:=hbd (aO s ((2+k:Nat):Int))
  have h16:(16^k:Nat)<=4096:=Nat.pow_le_pow_right (by decide) (show k<=3 by omega)
  by_cases hx:ed (aO s ((2+k:Nat):Int))<0
  ·rw[Df hlt hx]
   generalize ed (aO s ((2+k:Nat):Int))=hv at*
   refine Q.rg<|S.dd<|D.nx 0 U U (by omega) (by rw[hd])<|?_
   rw[hd]
   refine S.qu (Z.ex U U)<|Q.nt<|S.sq<|S.cT U U<|UW.skip<|UQ.then<|UW.block<|Q.rg<|S.qu (Z.ex U U)<|Q.as U<|Q.nt<|Q.rg<|Q.mv U<|S.qu (Z.call U U (λH=>hi H))<|Q.as U<|Q.nt<|S.sq<|Q.rg<|Q.mv U<|Q.bi U U U<|Q.nt<|S.cT U (decide_eq_true (by omega))<|Q.rg<|Q.as U<|Q.as U<|Q.nt<|UW.ret<|UQ.aj<|UQ.az<|UQ.aj<|UQ.az<|UQ.aj<|S.bG (λhd=>ax U (Y U) (Y U))<|?_
   rfl
  ·have hnx:(k+1<=4)/\16*n+ed (aO s ((2+k:Nat):Int))=hacc s (k+1)/\∀i,i<k+1->0<=ed (aO s ((2+i:Nat):Int)):=⟨hlt,by rw[hn];rfl,λi hi=>by
    rcases Nat.lt_succ_iff_lt_or_eq.1 hi with g|g
    ·exact hall i g
    ·subst g;omega⟩
   have hor:=Zb (n:=n) (h:=ed (aO s ((2+k:Nat):Int))) (by omega) (by omega) (by omega) (by omega)
   generalize ed (aO s ((2+k:Nat):Int))=hv at*
   refine Q.rg<|S.dd<|D.nx 0 U U (by omega) (by rw[hd])<|?_
   rw[hd]
   refine S.qu (Z.ex U U)<|Q.nt<|S.sq<|S.cT U U<|UW.skip<|UQ.then<|UW.block<|Q.rg<|S.qu (Z.ex U U)<|Q.as U<|Q.nt<|Q.rg<|Q.mv U<|S.qu (Z.call U U (λH=>hi H))<|Q.as U<|Q.nt<|S.sq<|Q.rg<|Q.mv U<|Q.bi U U U<|Q.nt<|S.cF U (decide_eq_false (by omega))<|UW.skip<|UQ.then<|S.rg<|Q.mv U<|S.qu (Z.shl (r:=16*n) U U (by decide) (by rw[show n*2^min (4:Int).toNat IntKind.i32.bits=16*n from by show n*2^4=_;omega];exact IntWalk.i32_in _ (by omega)))<|?_
   refine Q.mv U<|S.qu (Z.cv (r:=hv) Tryz.underlying21 U (IntWalk.i32_in _ (by omega)) (by rw[Tryz.underlying3];rfl))<|?_
   refine S.qu (Z.eq (u':=.v (.int .i32 (16*n+hv))) (Z.bi U U U) (by rw[hor]))<|?_
   refine Q.as U<|US.nil<|UQ.aI<|?_
   refine S.back (k+1,16*n+hv) ⟨rfl,rfl,trivial⟩ (.refl _) (by omega) (by omega)
 ·have h4:k=4:=by omega
  subst h4
  rw[OT hb h6 hall,<-hn]
  have ho:zf n=.dH [.v (.int .i32 n),.v (.bool true)]:=if_pos (by omega)
  rw[ho]
  refine Q.rg<|S.dd<|D.WZ 0 U U (by omega)<|S.qu (Z.ex U U)<|Q.nt<|S.sq<|S.cF U U<|UW.exit<|UQ.pass<|UQ.pass<|UQ.here<|UQ.then<|Q.rg<|Q.mv U<|Q.as U<|Q.as U<|Q.nt<|UW.ret<|S.bG (λhd=>ax U (Y U) (Y U))<|?_
  rfl
def TG(x:Lib.CaseRow):Bool:=decide (x.2.1<128)||(if x.delta 1>1114111 then decide (128<=x.1) else(decide (128<=(x.1:Int)+x.delta 1)||(decide (x.1=x.2.1)&&(decide ((x.1:Int)+x.delta 1=105)||decide ((x.1:Int)+x.delta 1=107)))))
theorem MK:Lib.caseT.all TG=true:=by kernel_rfl
theorem HZ{r:Int}(h:128<=r):128<=Lib.toLowerU r\/Lib.toLowerU r=105\/Lib.toLowerU r=107:=by
 unfold Lib.toLowerU
 rw[if_neg (by omega)]
 unfold Lib.toR Lib.lookupGo
 cases hl:Lib.lookupIdx Lib.caseA r (Lib.caseA.size+1) 0 Lib.caseA.size with
 |none=>exact .inl h
 |some i=>
  obtain⟨h1,h2,h3⟩:=Lib.lookupIdx_some _ _ _ _ _ _ hl
  have hm:Lib.caseA.getD i (0,0,0,0,0)∈Lib.caseT:=by
   rw[Array.getD_eq_getD_getElem?,Array.getElem?_eq_getElem h1,Option.getD_some]
   show Lib.caseA[i]∈_
   have:=Array.getElem_mem h1
   rw[<-Array.mem_toList_iff] at this
   exact this
  have ho:=List.all_eq_true.1 MK _ hm
  show 128<=Lib.convertR 1 r (Lib.caseA.getD i (0,0,0,0,0))\/Lib.convertR 1 r (Lib.caseA.getD i (0,0,0,0,0))=105\/Lib.convertR 1 r (Lib.caseA.getD i (0,0,0,0,0))=107
  generalize Lib.caseA.getD i (0,0,0,0,0)=x at*
  unfold TG at ho
  unfold Lib.convertR
  simp only[Bool.or_eq_true,decide_eq_true_eq,Bool.and_eq_true] at ho
  rcases ho with ho|ho
  ·omega
  ·by_cases hd:x.delta 1>1114111
   ·rw[if_pos hd] at ho⊢
    simp only[decide_eq_true_eq] at ho
    left
    have:=Int.emod_lt_of_pos (r-(x.1:Int)) (show(0:Int)<2 by decide)
    have h6:=Int.emod_nonneg (r-(x.1:Int)) (show(2:Int)≠0 by decide)
    show 128<=(x.1:Int)+((r-x.1)-(r-x.1)% 2+((1 % 2:Nat):Int))
    omega
   ·rw[if_neg hd] at ho⊢
    simp only[Bool.or_eq_true,decide_eq_true_eq,Bool.and_eq_true] at ho
    omega
theorem Ke(x:UInt8)(h:128<=x.toNat):x∉eD.data.toList:=λhm=>by have:=HV x hm;omega
theorem RV{v:Int}(h:128<=v\/v=105\/v=107):∃b∈Lib.encodeRune v,b∉eD.data.toList:=by
 rcases h with h|rfl|rfl
 ·have key:∃z∈Lib.encodeRuneZ v,128<=z/\z<256:=by
   unfold Lib.encodeRuneZ
   rw[if_neg (by omega)]
   split
   ·exact⟨_,List.mem_cons_self ..,by omega,by omega⟩
   ·split
    ·exact⟨_,List.mem_cons_self ..,by omega,by omega⟩
    ·split
     ·exact⟨_,List.mem_cons_self ..,by omega,by omega⟩
     ·exact⟨_,List.mem_cons_self ..,by omega,by omega⟩
  obtain⟨z,hz,h1,h2⟩:=key
  refine⟨z.toNat.toUInt8,List.mem_map.2 ⟨z,hz,rfl⟩,Ke _ ?_⟩
  show 128<=(UInt8.ofNat _).toNat
  rw[UInt8.toNat_ofNat',Nat.mod_eq_of_lt (by omega)]
  omega
 ·exact⟨105,by decide,by decide⟩
 ·exact⟨107,by decide,by decide⟩
theorem Dg:∀(n:Nat) (l:List UInt8),l.length<=n->(∃b∈l,128<=b.toNat)->∃b∈Lib.toLowerD l,b∉eD.data.toList
 |0,l,hn,⟨b,hb,_⟩=>by
  have:l=[]:=List.eq_nil_of_length_eq_zero (by omega)
  subst this
  cases hb
 |n+1,[],_,⟨b,hb,_⟩=>by cases hb
 |n+1,x::r,hn,⟨b,hb,hbb⟩=>by
  have hlt:0<(⟨(x::r).toArray⟩:ByteArray).size:=by show 0<(x::r).length;simp
  have hst:=Lib.mapD_step Lib.toLowerU (x::r) (by simp)
  show∃b∈Lib.mapD Lib.toLowerU (x::r),_
  by_cases hx:x.toNat<128
  ·have hd:Lib.decodeL (x::r)=(x.toNat,1):=decode_ascii (⟨(x::r).toArray⟩:ByteArray) 0 hlt hx
   rw[hd] at hst
   have hr:∃b∈r,128<=b.toNat:=by
    rcases List.mem_cons.1 hb with rfl|hb
    ·omega
    ·exact⟨b,hb,hbb⟩
   obtain⟨c,hc,hcb⟩:=Dg n r (by simp at hn;omega) hr
   exact⟨c,by rw[hst];exact List.mem_append_right _ hc,hcb⟩
  ·have hd:=(decode_high (⟨(x::r).toArray⟩:ByteArray) 0 hlt (Nat.le_of_not_lt hx)).1
   have hu:=HZ (r:=((Lib.decodeL (x::r)).1:Int)) (Int.ofNat_le.2 hd)
   obtain⟨c,hc,hcb⟩:=RV hu
   rw[hst,if_pos (by omega)]
   exact⟨c,List.mem_append_left _ hc,hcb⟩
theorem VV(s:ByteArray)(p:Nat):(Utf8.decode s p).1<=2097151:=by
 have hb:∀k,(s.get! k).toNat<256:=λk=>UInt8.toNat_lt _
 have h0:=hb (p+0)
 have h1:=hb (p+1)
 have h2:=hb (p+2)
 have h3:=hb (p+3)
 unfold Utf8.decode
 dsimp only
 have he:Utf8.runeError=65533:=rfl
 (repeat' split)<;>dsimp only<;>(try rw[he])<;>omega
end Go.Proofs.YtbooeongacgnbaaGreatDoor
end
