/- A part of the proof. -/
import Derived.Test.YtbooeongacgnbaaGreatDoorMw32
import Derived.Test.YtbooeongacgnbaaGreatDoorMw29
import Derived.Test.YtbooeongacgnbaaGreatDoorMw11
import Derived.Test.YtbooeongacgnbaaGreatDoorMw35
import Derived.Test.YtbooeongacgnbaaGreatDoorMw28
set_option maxRecDepth 100000
set_option maxHeartbeats 4000000
set_option linter.unusedSectionVars false
set_option linter.unusedVariables false
set_option linter.unusedSimpArgs false
section
namespace Go.Proofs.YtbooeongacgnbaaGreatDoor
open Go Go.gW Go.RowKit
theorem Du:JK Tryz.prog 113=some 27:=by kernel_rfl
def jc(p:Nat)(s:ByteArray)(d:Nat)(G:Hp):PR->AV->Hp->Prop
 | .err e q,u,H'=>∃news,aK G news/\H'=aB G news/\∃v d',u=.dH [.agg (aN v),F5 e q]/\news=[bN p s q d']
 | .ok q v,u,H'=>∃news,aK G news/\H'=aB G news/\u=.dH [.agg (aN v),.v .nilIface]/\news=[bN p s q d]
theorem Kz(s:ByteArray)(q:Nat)(w:ByteArray)(hq:q<=s.size):Lib.hasPrefix (s.extract q s.size).data.toList w.data.toList=preB s q w:=by
 show Lib.hasPrefix (bl (s.extract q s.size)) (bl w)=_
 have hl:(bl (s.extract q s.size))=(bl s).drop q:=by
  rw[bZ,List.take_of_length_le]
  rw[List.length_drop,iq];exact Nat.le_refl _
 have hw:=iq w
 have hls:=iq s
 rw[hl]
 unfold Lib.hasPrefix preB
 rw[Bool.eq_iff_iff,List.isPrefixOf_iff_prefix,Bool.and_eq_true,decide_eq_true_iff,beq_iff_eq]
 have e2:∀a b:ByteArray,a.toList=b.toList↔bl a=bl b:=λa b=>⟨λh=>by rw[kK h],λh=>by rw[lH h]⟩
 rw[e2,bZ,show q+w.size-q=(bl w).length from by omega]
 constructor
 ·intro h
  refine⟨?_,(List.prefix_iff_eq_take.1 h).symm⟩
  have:=h.length_le
  rw[List.length_drop] at this
  omega
 ·rintro⟨h1,h2⟩
  rw[<-h2]
  exact List.take_prefix _ _
theorem qE(s:ByteArray)(q:Nat)(c:UInt8)(hq:q<=s.size):Lib.hasPrefix (s.extract q s.size).data.toList [c]=bT s q (c.toNat:Int):=by
 have h:=Kz s q ⟨#[c]⟩ hq
 refine Eq.trans (show _=Lib.hasPrefix (s.extract q s.size).data.toList (⟨#[c]⟩:ByteArray).data.toList from rfl)<|h.trans<|?_
 unfold preB bT
 rw[Bool.eq_iff_iff,Bool.and_eq_true,Bool.and_eq_true,decide_eq_true_iff,decide_eq_true_iff,beq_iff_eq,beq_iff_eq]
 have e2:∀a b:ByteArray,a.toList=b.toList↔bl a=bl b:=λa b=>⟨λh=>by rw[kK h],λh=>by rw[lH h]⟩
 rw[e2,bZ,show q+(⟨#[c]⟩:ByteArray).size-q=1 from by show q+1-q=1;omega]
 show(q+1<=s.size/\_=[c])↔_
 constructor
 ·rintro⟨h1,h2⟩
  have hb:=jb s q (by omega)
  rw[List.drop_eq_getElem_cons (show q<(bl s).length from by rw[iq];omega),List.take_succ_cons,List.take_zero] at h2
  have:=List.head_eq_of_cons_eq h2
  exact⟨by omega,by rw[hb,this]⟩
 ·rintro⟨h1,h2⟩
  have hlt:q<s.size:=by omega
  have hb:=jb s q hlt
  refine⟨by omega,?_⟩
  rw[List.drop_eq_getElem_cons (show q<(bl s).length from by rw[iq];omega),List.take_succ_cons,List.take_zero]
  congr 1
  exact UInt8.toNat_inj.1 (by omega)
theorem eB(p:Nat)(s:ByteArray)(q d:Nat)(hs:s.size<=1000000)(hq:q<=s.size)(c:UInt8)(b:Bool)(hb:bT s q (c.toNat:Int)=b)(H:Hp)(hp:H p=some (.box 60 (gu s q d))):F Tryz.prog 77 [.ptr p 0,.v (.string ⟨#[c]⟩)] H (bn H (.v (.bool b))):=by
 have h:=xh p s q d hs hq ⟨#[c]⟩ H hp
 rw[show(⟨#[c]⟩:ByteArray).data.toList=[c] from rfl,qE s q c hq,hb] at h
 exact h
theorem Bw(p:Nat)(s:ByteArray)(q d:Nat)(hs:s.size<=1000000)(hq:q<=s.size)(w:ByteArray)(b:Bool)(hb:preB s q w=b)(H:Hp)(hp:H p=some (.box 60 (gu s q d))):F Tryz.prog 77 [.ptr p 0,.v (.string w)] H (bn H (.v (.bool b))):=by
 have h:=xh p s q d hs hq w H hp
 rw[Kz s q w hq,hb] at h
 exact h
def oH:List (ByteArray×AV):=[(gU,.agg (aN zeroV)),(iH,.agg (aN (.mk 1 1 ⟨#[]⟩ [] []))),(fI,.agg (aN (.mk 1 0 ⟨#[]⟩ [] [])))]
theorem vg(H:Hp):F Tryz.prog 84 [] H (λu H'=>∃news,aK H news/\H'=aB H news/\∃id,u=.mpr id/\news=[(id,.mp oH)]):=by
 refine aA (n:=6) (H0:=H) (M:=[]) Tryz.func84 (by kernel_rfl) U (by rw[Tryz.ntmps84];rfl) .nil<|?_
 refine Q.rg<|Q.as U<|Q.nt<|Q.rg<|S.dd<|D.mkm λp1=>S.qu (Z.bd [] dh U U U U U U)<|S.s<|D.ins 0 Du U U U U U U λ_=>S.qu (Z.bd [0,1] dh U U U U U U)<|S.s<|D.ins 0 Du U U U U U U λ_=>S.qu (Z.bd [0] dh U U U U U U)<|S.s<|D.ins 0 Du U U U U U U λ_=>Q.mv U<|Q.as U<|Q.nt<|UW.ret<|?_
 exact bD [_] (λ_=>au U U) (.refl _) λhd=>⟨_,hd,rfl,_,rfl,rfl⟩
theorem yu{s w:ByteArray}{q:Nat}{x:UInt8}{m:List UInt8}(hq:q<=s.size)(hw:bl w=x::m)(h:preB s q w=true):bT s q (x.toNat:Int)=true:=by
 rw[<-Kz s q w hq,show w.data.toList=x::m from hw] at h
 rw[<-qE s q x hq]
 unfold Lib.hasPrefix at h⊢
 cases hl:(s.extract q s.size).data.toList with
 |nil=>rw[hl] at h;cases h
 |cons y r=>
  rw[hl] at h
  simp only[List.isPrefixOf,Bool.and_eq_true] at h⊢
  exact⟨h.1,trivial⟩
theorem FP{s:ByteArray}{q i:Nat}{w:ByteArray}{u:AV}(hq:q<=s.size)(h:oH[i]? =some (w,u)):i<3/\∃v,u=.agg (aN v)/\w.size<=5/\(preB s q w=true->eG s q=.ok (q+w.size) v):=by
 have f1:preB s q gU=true->bT s q 110=true:=λh=>yu (x:=110) (m:=[117,108,108]) hq U h
 have f2:preB s q iH=true->bT s q 116=true:=λh=>yu (x:=116) (m:=[114,117,101]) hq U h
 have f3:preB s q fI=true->bT s q 102=true:=λh=>yu (x:=102) (m:=[97,108,115,101]) hq U h
 have n:∀{b:Bool},(b=true->False)->¬b=true:=λh=>h
 match i,h with
 |0,h=>
  cases h
  refine⟨by decide,zeroV,rfl,by decide,λhp=>?_⟩
  unfold eG
  rw[if_pos hp];rfl
 |1,h=>
  cases h
  refine⟨by decide,.mk 1 1 ⟨#[]⟩ [] [],rfl,by decide,λhp=>?_⟩
  unfold eG
  rw[if_neg (λg=>by have:=nZ (f2 hp) (show(116:Int)≠110 by decide);rw[f1 g] at this;cases this),if_pos hp];rfl
 |2,h=>
  cases h
  refine⟨by decide,.mk 1 0 ⟨#[]⟩ [] [],rfl,by decide,λhp=>?_⟩
  unfold eG
  rw[if_neg (λg=>by have:=nZ (f3 hp) (show(102:Int)≠110 by decide);rw[f1 g] at this;cases this),if_neg (λg=>by have:=nZ (f3 hp) (show(102:Int)≠116 by decide);rw[f2 g] at this;cases this),if_pos hp];rfl
 |i+3,h=>cases h
def lq(s:ByteArray)(q:Nat)(seen:List Nat):Prop:=∀i∈seen,∀w u,oH[i]? =some (w,u)->preB s q w=false
theorem lq.snoc{s:ByteArray}{q i:Nat}{seen:List Nat}{w:ByteArray}{u:AV}(h:lq s q seen)(he:oH[i]? =some (w,u))(hb:preB s q w=false):lq s q (seen++[i]):=λj hj w' u' hj'=>by
 rcases List.mem_append.1 hj with g|g
 ·exact h j g w' u' hj'
 ·rw[List.mem_singleton] at g
  subst g
  rw[he] at hj'
  cases hj'
  exact hb
theorem lq.none{s:ByteArray}{q:Nat}{seen:List Nat}(h:lq s q seen)(ha:∀i,i<3->i∈seen):eG s q=.err 11 q:=by
 have h0:=h 0 (ha 0 (by decide)) _ _ U
 have h1:=h 1 (ha 1 (by decide)) _ _ U
 have h2:=h 2 (ha 2 (by decide)) _ _ U
 unfold eG
 rw[if_neg (by rw[h0];decide),if_neg (by rw[h1];decide),if_neg (by rw[h2];decide)]
def WI(seen:List Nat):Nat:=(if 0∈seen then 0 else 1)+(if 1∈seen then 0 else 1)+(if 2∈seen then 0 else 1)
theorem KA{seen:List Nat}{i:Nat}(h:i<3)(hn:i∉seen):WI (seen++[i])<WI seen:=by
 have hle:∀k,(if k∈seen++[i] then 0 else 1)<=(if k∈seen then 0 else 1):=λk=>by
  by_cases hk:k∈seen
  ·rw[if_pos hk,if_pos (List.mem_append_left _ hk)];exact Nat.le_refl _
  ·rw[if_neg hk];split<;>omega
 have hi:(if i∈seen++[i] then 0 else 1)<(if i∈seen then 0 else 1):=by
  rw[if_neg hn,if_pos (List.mem_append_right _ (List.mem_singleton.2 U))];decide
 have a0:=hle 0
 have a1:=hle 1
 have a2:=hle 2
 unfold WI
 match i,h with
 |0,_=>omega
 |1,_=>omega
 |2,_=>omega
theorem KC(p:Nat)(s:ByteArray)(q d:Nat)(hs:s.size<=1000000)(hq:q<=s.size)(h1:bT s q 91=false)(h2:bT s q 123=false)(h3:bT s q 34=true)(hu:gV (s.extract q s.size)=none)(G:Hp){ga gb:Addr}(hG:bO ga gb G)(hd:aK G [bN p s q d]):F Tryz.prog 55 [.ptr p 0] (aB G [bN p s q d]) (jc p s d G (.err 11 q)):=by
 have hr:=cz p s q d hs hq
 have hi1:=eB p s q d hs hq 91 false h1
 have hi2:=eB p s q d hs hq 123 false h2
 have hi3:=eB p s q d hs hq 34 true h3
 have ht:=λG hG hd=>H7 p s q d hs hq hu G (ga:=ga) (gb:=gb) hG hd
 generalize s.extract q s.size=u at*
 unfold bN at hd ht⊢
 refine aA (n:=85) (H0:=G) (M:=[(p,.box 60 (gu s q d))]) Tryz.func55 (by kernel_rfl) U (by rw[Tryz.ntmps55];rfl) hd<|?_
 refine Q.rg<|S.dd<|D.al z27 U U U λp2=>Q.as U<|Q.nt<|S.sq<|Q.rg<|Q.mv U<|S.qu (Z.aQ U U (λhd=>hr _ (hd.at_ (k:=1) U)))<|Q.as U<|Q.nt<|UW.block<|Q.rg<|Q.mv U<|S.qu (Z.aQ U U (λhd=>hi1 _ (hd.at_ (k:=1) U)))<|Q.as U<|Q.nt<|S.cF U U<|Q.rg<|Q.mv U<|S.qu (Z.aQ U U (λhd=>hi2 _ (hd.at_ (k:=1) U)))<|Q.as U<|Q.nt<|S.cF U U<|Q.rg<|Q.mv U<|S.qu (Z.aQ U U (λhd=>hi3 _ (hd.at_ (k:=1) U)))<|Q.as U<|Q.nt<|S.cT U U<|Q.rg<|Q.mv U<|S.dd<|D.oJ (.cons 1 U .nil) U U (λH hS hD=>ht H (hG.mono hS) hD)<|?_
 (rintro _ _ ⟨rfl,rfl⟩)
 refine Q.mv U<|S.qu (Z.ex U U)<|S.qu (Z.ex U U)<|Q.as U<|Q.as U<|Q.nt<|Q.rg<|Q.mv U<|S.qu (Z.call U U (λH=>GI ⟨#[]⟩ H))<|Q.mv U<|S.s<|D.st 1 ay U U U U U U U U λ_=>Q.as U<|Q.nt<|UW.ret<|UQ.az<|UQ.aj<|?_
 exact bD [(p,.box 60 (gu s q d))] (λhd=>ax U (av (k:=1) hd U U bH bI) (Y U)) (.cons_cons _ (List.nil_sublist _)) λhd=>⟨_,hd,rfl,BP ⟨#[]⟩,d,rfl,rfl⟩
theorem Im(p:Nat)(s:ByteArray)(q d:Nat)(hs:s.size<=1000000)(hq:q<=s.size)(h1:bT s q 91=false)(h2:bT s q 123=false)(h3:bT s q 34=true)(t:ByteArray)(n:Nat)(hu:gV (s.extract q s.size)=some (t,n))(G:Hp){ga gb:Addr}(hG:bO ga gb G)(hd:aK G [bN p s q d]):F Tryz.prog 55 [.ptr p 0] (aB G [bN p s q d]) (jc p s d G (.ok (q+n) (BP t))):=by
 have hr:=cz p s q d hs hq
 have hi1:=eB p s q d hs hq 91 false h1
 have hi2:=eB p s q d hs hq 123 false h2
 have hi3:=eB p s q d hs hq 34 true h3
 have ht:=λG hG hd=>o8 p s q d hs hq t n hu G (ga:=ga) (gb:=gb) hG hd
 generalize s.extract q s.size=u at*
 unfold bN at hd ht⊢
 refine aA (n:=85) (H0:=G) (M:=[(p,.box 60 (gu s q d))]) Tryz.func55 (by kernel_rfl) U (by rw[Tryz.ntmps55];rfl) hd<|?_
 refine Q.rg<|S.dd<|D.al z27 U U U λp2=>Q.as U<|Q.nt<|S.sq<|Q.rg<|Q.mv U<|S.qu (Z.aQ U U (λhd=>hr _ (hd.at_ (k:=1) U)))<|Q.as U<|Q.nt<|UW.block<|Q.rg<|Q.mv U<|S.qu (Z.aQ U U (λhd=>hi1 _ (hd.at_ (k:=1) U)))<|Q.as U<|Q.nt<|S.cF U U<|Q.rg<|Q.mv U<|S.qu (Z.aQ U U (λhd=>hi2 _ (hd.at_ (k:=1) U)))<|Q.as U<|Q.nt<|S.cF U U<|Q.rg<|Q.mv U<|S.qu (Z.aQ U U (λhd=>hi3 _ (hd.at_ (k:=1) U)))<|Q.as U<|Q.nt<|S.cT U U<|Q.rg<|Q.mv U<|S.dd<|D.oJ (.cons 1 U .nil) U U (λH hS hD=>ht H (hG.mono hS) hD)<|?_
 (rintro _ _ ⟨rfl,rfl⟩)
 refine Q.mv U<|S.qu (Z.ex U U)<|S.qu (Z.ex U U)<|Q.as U<|Q.as U<|Q.nt<|Q.rg<|Q.mv U<|S.qu (Z.call U U (λH=>GI t H))<|Q.mv U<|S.s<|D.st 1 ay U U U U U U U U λ_=>Q.as U<|Q.nt<|UW.ret<|UQ.az<|UQ.aj<|?_
 exact bD [(p,.box 60 (gu s (q+n) d))] (λhd=>ax U (av (k:=1) hd U U bH bI) (Y U)) (by repeat (first|exact List.nil_sublist _|refine .cons_cons _ ?_|refine .cons _ ?_)) λhd=>⟨_,hd,rfl,rfl,rfl⟩
theorem Pj{s:ByteArray}{q:Nat}(h:q<s.size):0<aT s q↔(48<=aO s (q:Int)/\aO s (q:Int)<=57):=by
 by_cases hc:48<=aO s (q:Int)/\aO s (q:Int)<=57
 ·rw[Hm h hc.1 hc.2];exact⟨λ_=>hc,λ_=>by omega⟩
 ·rw[E9 (λ_=>by omega)];exact⟨λh=>by omega,λh=>absurd h hc⟩
theorem Zf{a:ByteArray}(h:a.size≠0):(!(a.toList==(⟨#[]⟩:ByteArray).toList))=true:=by
 rw[beq_eq_false_iff_ne.2 (OL a h)];rfl
theorem KD(p:Nat)(s:ByteArray)(q d:Nat)(hs:s.size<=1000000)(hq:q<=s.size)(h1:bT s q 91=false)(h2:bT s q 123=false)(h3:bT s q 34=false)(h4:bT s q 45=true\/0<aT s q)(G:Hp){ga gb:Addr}(hG:bO ga gb G)(hd:aK G [bN p s q d]):F Tryz.prog 55 [.ptr p 0] (aB G [bN p s q d]) (jc p s d G (ko s q)):=by
 have hr:=cz p s q d hs hq
 have hi1:=eB p s q d hs hq 91 false h1
 have hi2:=eB p s q d hs hq 123 false h2
 have hi3:=eB p s q d hs hq 34 false h3
 have hlt:q<s.size:=h4.elim bP λh=>by
  rcases Nat.lt_or_ge q s.size with g|g
  ·exact g
  ·rw[rO (by omega)] at h;omega
 have hzu:(s.extract q s.size).size=s.size-q:=by rw[ByteArray.size_extract];omega
 have hb0:aO (s.extract q s.size) 0=aO s (q:Int):=by
  have:=jC s q 0 (by omega)
  exact this
 have hne:=Zf (a:=s.extract q s.size) (by omega)
 have ht:=λG hG hd=>FN p s q d hs hq h4 G (ga:=ga) (gb:=gb) hG hd
 have h5:aO s (q:Int)=45\/(¬aO s (q:Int)=45/\48<=aO s (q:Int)/\aO s (q:Int)<=57):=by
  by_cases g:aO s (q:Int)=45
  ·exact .inl g
  ·refine .inr ⟨g,(Pj hlt).1 (h4.resolve_left λh=>g ?_)⟩
   unfold bT at h
   exact eq_of_beq (Bool.and_eq_true_iff.1 h).2
 generalize s.extract q s.size=u at*
 generalize aO s (q:Int)=c at*
 cases hn:ko s q with
 |err e r=>
  rw[hn] at ht
  unfold bN at hd ht⊢
  rcases h5 with h5|⟨h5,h6,h7⟩
  ·refine aA (n:=85) (H0:=G) (M:=[(p,.box 60 (gu s q d))]) Tryz.func55 (by kernel_rfl) U (by rw[Tryz.ntmps55];rfl) hd<|?_
   refine Q.rg<|S.dd<|D.al z27 U U U λp2=>Q.as U<|Q.nt<|S.sq<|Q.rg<|Q.mv U<|S.qu (Z.aQ U U (λhd=>hr _ (hd.at_ (k:=1) U)))<|Q.as U<|Q.nt<|UW.block<|Q.rg<|Q.mv U<|S.qu (Z.aQ U U (λhd=>hi1 _ (hd.at_ (k:=1) U)))<|Q.as U<|Q.nt<|S.cF U U<|Q.rg<|Q.mv U<|S.qu (Z.aQ U U (λhd=>hi2 _ (hd.at_ (k:=1) U)))<|Q.as U<|Q.nt<|S.cF U U<|Q.rg<|Q.mv U<|S.qu (Z.aQ U U (λhd=>hi3 _ (hd.at_ (k:=1) U)))<|Q.as U<|Q.nt<|S.cF U U<|Q.rg<|Q.mv U<|S.qu (Z.tT (Z.bs U U U) hne)<|Q.mv U<|Q.on (Z.mv U)<|Q.on (Z.eq (u':=.v (.int .u8 c)) (Z.is Tryz.underlying9 U U (by omega) (by omega)) (by rw[hb0]))<|?_
   refine Q.on (Z.bi U U U)<|Q.on (Z.mv U)<|S.tT 47 (cZ (by omega))<|Q.of<|Q.of<|Q.of<|Q.of<|Q.ou<|Q.ou<|Q.ou<|Q.of<|Q.on (Z.pick U U)<|Q.pk U U<|Q.as U<|Q.nt<|S.cT U U<|Q.rg<|Q.mv U<|S.dd<|D.oJ (.cons 1 U .nil) U U (λH hS hD=>ht H (hG.mono hS) hD)<|?_
   (rintro _ _ ⟨rfl,rfl⟩;unfold bN)
   refine S.qu (Z.ex U U)<|S.qu (Z.ex U U)<|S.s<|D.st 1 ay U U U U U U U U λ_=>Q.as U<|Q.nt<|UW.ret<|UQ.az<|UQ.aj<|?_
   exact bD [(p,.box 60 (gu s r d))] (λhd=>ax U (av (k:=1) hd U U bH bI) (Y U)) (by repeat (first|exact List.nil_sublist _|refine .cons_cons _ ?_|refine .cons _ ?_)) λhd=>⟨_,hd,rfl,zeroV,d,rfl,rfl⟩
  ·refine aA (n:=85) (H0:=G) (M:=[(p,.box 60 (gu s q d))]) Tryz.func55 (by kernel_rfl) U (by rw[Tryz.ntmps55];rfl) hd<|?_
   focus
    refine Q.rg<|S.dd<|D.al z27 U U U λp2=>Q.as U<|Q.nt<|S.sq<|Q.rg<|Q.mv U<|S.qu (Z.aQ U U (λhd=>hr _ (hd.at_ (k:=1) U)))<|Q.as U<|Q.nt<|UW.block<|Q.rg<|Q.mv U<|S.qu (Z.aQ U U (λhd=>hi1 _ (hd.at_ (k:=1) U)))<|Q.as U<|Q.nt<|S.cF U U<|Q.rg<|Q.mv U<|S.qu (Z.aQ U U (λhd=>hi2 _ (hd.at_ (k:=1) U)))<|Q.as U<|Q.nt<|S.cF U U<|Q.rg<|Q.mv U<|S.qu (Z.aQ U U (λhd=>hi3 _ (hd.at_ (k:=1) U)))<|Q.as U<|Q.nt<|S.cF U U<|Q.rg<|Q.mv U<|S.qu (Z.tT (Z.bs U U U) hne)<|Q.mv U<|Q.on (Z.mv U)<|Q.on (Z.eq (u':=.v (.int .u8 c)) (Z.is Tryz.underlying9 U U (by omega) (by omega)) (by rw[hb0]))<|?_
    refine Q.on (Z.bi U U U)<|Q.on (Z.mv U)<|S.tF 47 (bf (by omega))<|Q.on (Z.mv U)<|Q.on (Z.eq (u':=.v (.int .u8 c)) (Z.is Tryz.underlying9 U U (by omega) (by omega)) (by rw[hb0]))<|?_
    refine Q.on (Z.bi U U U)<|Q.on (Z.mv U)<|?_
    refine S.tD 51 (λuT=>?_) (λuT=>?_)
    rotate_left
    omega
    refine Q.on (Z.mv U)<|Q.on (Z.eq (u':=.v (.int .u8 c)) (Z.is Tryz.underlying9 U U (by omega) (by omega)) (by rw[hb0]))<|?_
    refine Q.on (Z.bi U U U)<|Q.on (Z.pick U U)<|Q.on (Z.pick U U)<|Q.pk U U<|Q.as U<|Q.nt<|S.cT U (decide_eq_true (by omega))<|Q.rg<|Q.mv U<|S.dd<|D.oJ (.cons 1 U .nil) U U (λH hS hD=>ht H (hG.mono hS) hD)<|?_
    (rintro _ _ ⟨rfl,rfl⟩;unfold bN)
    refine S.qu (Z.ex U U)<|S.qu (Z.ex U U)<|S.s<|D.st 1 ay U U U U U U U U λ_=>Q.as U<|Q.nt<|UW.ret<|UQ.az<|UQ.aj<|?_
   exact bD [(p,.box 60 (gu s r d))] (λhd=>ax U (av (k:=1) hd U U bH bI) (Y U)) (by repeat (first|exact List.nil_sublist _|refine .cons_cons _ ?_|refine .cons _ ?_)) λhd=>⟨_,hd,rfl,zeroV,d,rfl,rfl⟩
 |ok r v=>
  rw[hn] at ht
  obtain⟨v0,v1,v2,v3,v4⟩:=v
  unfold bN at hd ht⊢
  rcases h5 with h5|⟨h5,h6,h7⟩
  ·refine aA (n:=85) (H0:=G) (M:=[(p,.box 60 (gu s q d))]) Tryz.func55 (by kernel_rfl) U (by rw[Tryz.ntmps55];rfl) hd<|?_
   refine Q.rg<|S.dd<|D.al z27 U U U λp2=>Q.as U<|Q.nt<|S.sq<|Q.rg<|Q.mv U<|S.qu (Z.aQ U U (λhd=>hr _ (hd.at_ (k:=1) U)))<|Q.as U<|Q.nt<|UW.block<|Q.rg<|Q.mv U<|S.qu (Z.aQ U U (λhd=>hi1 _ (hd.at_ (k:=1) U)))<|Q.as U<|Q.nt<|S.cF U U<|Q.rg<|Q.mv U<|S.qu (Z.aQ U U (λhd=>hi2 _ (hd.at_ (k:=1) U)))<|Q.as U<|Q.nt<|S.cF U U<|Q.rg<|Q.mv U<|S.qu (Z.aQ U U (λhd=>hi3 _ (hd.at_ (k:=1) U)))<|Q.as U<|Q.nt<|S.cF U U<|Q.rg<|Q.mv U<|S.qu (Z.tT (Z.bs U U U) hne)<|Q.mv U<|Q.on (Z.mv U)<|Q.on (Z.eq (u':=.v (.int .u8 c)) (Z.is Tryz.underlying9 U U (by omega) (by omega)) (by rw[hb0]))<|?_
   refine Q.on (Z.bi U U U)<|Q.on (Z.mv U)<|S.tT 47 (cZ (by omega))<|Q.of<|Q.of<|Q.of<|Q.of<|Q.ou<|Q.ou<|Q.ou<|Q.of<|Q.on (Z.pick U U)<|Q.pk U U<|Q.as U<|Q.nt<|S.cT U U<|Q.rg<|Q.mv U<|S.dd<|D.oJ (.cons 1 U .nil) U U (λH hS hD=>ht H (hG.mono hS) hD)<|?_
   (rintro _ _ ⟨rfl,rfl⟩;unfold bN)
   refine S.qu (Z.ex U U)<|S.qu (Z.ex U U)<|S.s<|D.st 1 ay U U U U U U U U λ_=>Q.as U<|Q.nt<|UW.ret<|UQ.az<|UQ.aj<|?_
   exact bD [(p,.box 60 (gu s r d))] (λhd=>ax U (av (k:=1) hd U U bH bI) (Y U)) (by repeat (first|exact List.nil_sublist _|refine .cons_cons _ ?_|refine .cons _ ?_)) λhd=>⟨_,hd,rfl,rfl,rfl⟩
  ·refine aA (n:=85) (H0:=G) (M:=[(p,.box 60 (gu s q d))]) Tryz.func55 (by kernel_rfl) U (by rw[Tryz.ntmps55];rfl) hd<|?_
   focus
    refine Q.rg<|S.dd<|D.al z27 U U U λp2=>Q.as U<|Q.nt<|S.sq<|Q.rg<|Q.mv U<|S.qu (Z.aQ U U (λhd=>hr _ (hd.at_ (k:=1) U)))<|Q.as U<|Q.nt<|UW.block<|Q.rg<|Q.mv U<|S.qu (Z.aQ U U (λhd=>hi1 _ (hd.at_ (k:=1) U)))<|Q.as U<|Q.nt<|S.cF U U<|Q.rg<|Q.mv U<|S.qu (Z.aQ U U (λhd=>hi2 _ (hd.at_ (k:=1) U)))<|Q.as U<|Q.nt<|S.cF U U<|Q.rg<|Q.mv U<|S.qu (Z.aQ U U (λhd=>hi3 _ (hd.at_ (k:=1) U)))<|Q.as U<|Q.nt<|S.cF U U<|Q.rg<|Q.mv U<|S.qu (Z.tT (Z.bs U U U) hne)<|Q.mv U<|Q.on (Z.mv U)<|Q.on (Z.eq (u':=.v (.int .u8 c)) (Z.is Tryz.underlying9 U U (by omega) (by omega)) (by rw[hb0]))<|?_
    refine Q.on (Z.bi U U U)<|Q.on (Z.mv U)<|S.tF 47 (bf (by omega))<|Q.on (Z.mv U)<|Q.on (Z.eq (u':=.v (.int .u8 c)) (Z.is Tryz.underlying9 U U (by omega) (by omega)) (by rw[hb0]))<|?_
    refine Q.on (Z.bi U U U)<|Q.on (Z.mv U)<|?_
    refine S.tD 51 (λuT=>?_) (λuT=>?_)
    rotate_left
    omega
    refine Q.on (Z.mv U)<|Q.on (Z.eq (u':=.v (.int .u8 c)) (Z.is Tryz.underlying9 U U (by omega) (by omega)) (by rw[hb0]))<|?_
    refine Q.on (Z.bi U U U)<|Q.on (Z.pick U U)<|Q.on (Z.pick U U)<|Q.pk U U<|Q.as U<|Q.nt<|S.cT U (decide_eq_true (by omega))<|Q.rg<|Q.mv U<|S.dd<|D.oJ (.cons 1 U .nil) U U (λH hS hD=>ht H (hG.mono hS) hD)<|?_
    (rintro _ _ ⟨rfl,rfl⟩;unfold bN)
    refine S.qu (Z.ex U U)<|S.qu (Z.ex U U)<|S.s<|D.st 1 ay U U U U U U U U λ_=>Q.as U<|Q.nt<|UW.ret<|UQ.az<|UQ.aj<|?_
   exact bD [(p,.box 60 (gu s r d))] (λhd=>ax U (av (k:=1) hd U U bH bI) (Y U)) (by repeat (first|exact List.nil_sublist _|refine .cons_cons _ ?_|refine .cons _ ?_)) λhd=>⟨_,hd,rfl,rfl,rfl⟩
theorem yY(p:Nat)(s:ByteArray)(q d:Nat)(hs:s.size<=1000000)(hq:q<=s.size)(h1:bT s q 91=true)(r:PR)(G:Hp){ga gb:Addr}(hG:bO ga gb G)
 (hm:∀G,bO ga gb G->aK G [bN p s q d]->F Tryz.prog 78 [.ptr p 0,.v (.string ⟨#[93]⟩),.v (.int .i64 4),.bnd 79 [.ptr p 0]] (aB G [bN p s q d]) (jc p s d G r)) (hd:aK G [bN p s q d]):F Tryz.prog 55 [.ptr p 0] (aB G [bN p s q d]) (jc p s d G r):=by
 have hr:=cz p s q d hs hq
 have hi1:=eB p s q d hs hq 91 true h1
 unfold bN at hd hm⊢
 cases r with
 |err e q1=>
  refine aA (n:=85) (H0:=G) (M:=[(p,.box 60 (gu s q d))]) Tryz.func55 (by kernel_rfl) U (by rw[Tryz.ntmps55];rfl) hd<|?_
  refine Q.rg<|S.dd<|D.al z27 U U U λp2=>Q.as U<|Q.nt<|S.sq<|Q.rg<|Q.mv U<|S.qu (Z.aQ U U (λhd=>hr _ (hd.at_ (k:=1) U)))<|Q.as U<|Q.nt<|UW.block<|Q.rg<|Q.mv U<|S.qu (Z.aQ U U (λhd=>hi1 _ (hd.at_ (k:=1) U)))<|Q.as U<|Q.nt<|S.cT U U<|Q.rg<|Q.mv U<|Q.mv U<|S.qu (Z.Yh U)<|S.dd<|D.oJ (.cons 1 U .nil) U U (λH hS hD=>hm H (hG.mono hS) hD)<|?_
  (rintro _ _ ⟨⟨v0,v1,v2,v3,v4⟩,d',rfl,rfl⟩;unfold bN)
  refine S.qu (Z.ex U U)<|S.qu (Z.ex U U)<|S.s<|D.st 1 ay U U U U U U U U λ_=>Q.as U<|Q.nt<|UW.ret<|UQ.az<|UQ.aj<|?_
  exact bD [(p,.box 60 (gu s q1 d'))] (λhd=>ax U (av (k:=1) hd U U bH bI) (Y U)) (by repeat (first|exact List.nil_sublist _|refine .cons_cons _ ?_|refine .cons _ ?_)) λhd=>⟨_,hd,rfl,.mk v0 v1 v2 v3 v4,d',rfl,rfl⟩
 |ok q1 v=>
  obtain⟨v0,v1,v2,v3,v4⟩:=v
  refine aA (n:=85) (H0:=G) (M:=[(p,.box 60 (gu s q d))]) Tryz.func55 (by kernel_rfl) U (by rw[Tryz.ntmps55];rfl) hd<|?_
  refine Q.rg<|S.dd<|D.al z27 U U U λp2=>Q.as U<|Q.nt<|S.sq<|Q.rg<|Q.mv U<|S.qu (Z.aQ U U (λhd=>hr _ (hd.at_ (k:=1) U)))<|Q.as U<|Q.nt<|UW.block<|Q.rg<|Q.mv U<|S.qu (Z.aQ U U (λhd=>hi1 _ (hd.at_ (k:=1) U)))<|Q.as U<|Q.nt<|S.cT U U<|Q.rg<|Q.mv U<|Q.mv U<|S.qu (Z.Yh U)<|S.dd<|D.oJ (.cons 1 U .nil) U U (λH hS hD=>hm H (hG.mono hS) hD)<|?_
  (rintro _ _ ⟨rfl,rfl⟩;unfold bN)
  refine S.qu (Z.ex U U)<|S.qu (Z.ex U U)<|S.s<|D.st 1 ay U U U U U U U U λ_=>Q.as U<|Q.nt<|UW.ret<|UQ.az<|UQ.aj<|?_
  exact bD [(p,.box 60 (gu s q1 d))] (λhd=>ax U (av (k:=1) hd U U bH bI) (Y U)) (by repeat (first|exact List.nil_sublist _|refine .cons_cons _ ?_|refine .cons _ ?_)) λhd=>⟨_,hd,rfl,rfl,rfl⟩
theorem Bz(p:Nat)(s:ByteArray)(q d:Nat)(hs:s.size<=1000000)(hq:q<=s.size)(h1:bT s q 91=false)(h2:bT s q 123=true)(r:PR)(G:Hp){ga gb:Addr}(hG:bO ga gb G)
 (hm:∀G,bO ga gb G->aK G [bN p s q d]->F Tryz.prog 78 [.ptr p 0,.v (.string ⟨#[125]⟩),.v (.int .i64 5),.bnd 80 [.ptr p 0]] (aB G [bN p s q d]) (jc p s d G r)) (hd:aK G [bN p s q d]):F Tryz.prog 55 [.ptr p 0] (aB G [bN p s q d]) (jc p s d G r):=by
 have hr:=cz p s q d hs hq
 have hi1:=eB p s q d hs hq 91 false h1
 have hi2:=eB p s q d hs hq 123 true h2
 unfold bN at hd hm⊢
 cases r with
 |err e q1=>
  refine aA (n:=85) (H0:=G) (M:=[(p,.box 60 (gu s q d))]) Tryz.func55 (by kernel_rfl) U (by rw[Tryz.ntmps55];rfl) hd<|?_
  refine Q.rg<|S.dd<|D.al z27 U U U λp2=>Q.as U<|Q.nt<|S.sq<|Q.rg<|Q.mv U<|S.qu (Z.aQ U U (λhd=>hr _ (hd.at_ (k:=1) U)))<|Q.as U<|Q.nt<|UW.block<|Q.rg<|Q.mv U<|S.qu (Z.aQ U U (λhd=>hi1 _ (hd.at_ (k:=1) U)))<|Q.as U<|Q.nt<|S.cF U U<|Q.rg<|Q.mv U<|S.qu (Z.aQ U U (λhd=>hi2 _ (hd.at_ (k:=1) U)))<|Q.as U<|Q.nt<|S.cT U U<|Q.rg<|Q.mv U<|Q.mv U<|S.qu (Z.Yh U)<|S.dd<|D.oJ (.cons 1 U .nil) U U (λH hS hD=>hm H (hG.mono hS) hD)<|?_
  (rintro _ _ ⟨⟨v0,v1,v2,v3,v4⟩,d',rfl,rfl⟩;unfold bN)
  refine S.qu (Z.ex U U)<|S.qu (Z.ex U U)<|S.s<|D.st 1 ay U U U U U U U U λ_=>Q.as U<|Q.nt<|UW.ret<|UQ.az<|UQ.aj<|?_
  exact bD [(p,.box 60 (gu s q1 d'))] (λhd=>ax U (av (k:=1) hd U U bH bI) (Y U)) (by repeat (first|exact List.nil_sublist _|refine .cons_cons _ ?_|refine .cons _ ?_)) λhd=>⟨_,hd,rfl,.mk v0 v1 v2 v3 v4,d',rfl,rfl⟩
 |ok q1 v=>
  obtain⟨v0,v1,v2,v3,v4⟩:=v
  refine aA (n:=85) (H0:=G) (M:=[(p,.box 60 (gu s q d))]) Tryz.func55 (by kernel_rfl) U (by rw[Tryz.ntmps55];rfl) hd<|?_
  refine Q.rg<|S.dd<|D.al z27 U U U λp2=>Q.as U<|Q.nt<|S.sq<|Q.rg<|Q.mv U<|S.qu (Z.aQ U U (λhd=>hr _ (hd.at_ (k:=1) U)))<|Q.as U<|Q.nt<|UW.block<|Q.rg<|Q.mv U<|S.qu (Z.aQ U U (λhd=>hi1 _ (hd.at_ (k:=1) U)))<|Q.as U<|Q.nt<|S.cF U U<|Q.rg<|Q.mv U<|S.qu (Z.aQ U U (λhd=>hi2 _ (hd.at_ (k:=1) U)))<|Q.as U<|Q.nt<|S.cT U U<|Q.rg<|Q.mv U<|Q.mv U<|S.qu (Z.Yh U)<|S.dd<|D.oJ (.cons 1 U .nil) U U (λH hS hD=>hm H (hG.mono hS) hD)<|?_
  (rintro _ _ ⟨rfl,rfl⟩;unfold bN)
  refine S.qu (Z.ex U U)<|S.qu (Z.ex U U)<|S.s<|D.st 1 ay U U U U U U U U λ_=>Q.as U<|Q.nt<|UW.ret<|UQ.az<|UQ.aj<|?_
  exact bD [(p,.box 60 (gu s q1 d))] (λhd=>ax U (av (k:=1) hd U U bH bI) (Y U)) (by repeat (first|exact List.nil_sublist _|refine .cons_cons _ ?_|refine .cons _ ?_)) λhd=>⟨_,hd,rfl,rfl,rfl⟩
theorem Io(p:Nat)(s:ByteArray)(q d:Nat)(hs:s.size<=1000000)(hq:q<=s.size)(h1:bT s q 91=false)(h2:bT s q 123=false)(h3:bT s q 34=false)(h4:bT s q 45=false)(h5:aT s q=0)(G:Hp){ga gb:Addr}(hG:bO ga gb G)(hd:aK G [bN p s q d]):F Tryz.prog 55 [.ptr p 0] (aB G [bN p s q d]) (jc p s d G (eG s q)):=by
 have hr:=cz p s q d hs hq
 have hi1:=eB p s q d hs hq 91 false h1
 have hi2:=eB p s q d hs hq 123 false h2
 have hi3:=eB p s q d hs hq 34 false h3
 have hw:=dK p s q d 11
 have hzu:(s.extract q s.size).size=s.size-q:=by rw[ByteArray.size_extract];omega
 have hb0:q<s.size->aO (s.extract q s.size) 0=aO s (q:Int):=λh=>by
  have:=jC s q 0 (by omega)
  exact this
 by_cases hlt:q<s.size
 ·have hb0:=hb0 hlt
  have hne:=Zf (a:=s.extract q s.size) (by omega)
  have hd':¬(48<=aO s (q:Int)/\aO s (q:Int)<=57):=λh=>by
   have:=(Pj hlt).2 h
   omega
  have h45:¬aO s (q:Int)=45:=λh=>by
   unfold bT at h4
   rw[h,decide_eq_true (show(q:Int)<s.size by omega)] at h4
   exact absurd h4 (by decide)
  generalize s.extract q s.size=u at*
  obtain⟨c,hcc⟩:∃c,c=aO s (q:Int):=⟨_,rfl⟩
  rw[<-hcc] at hb0 hd' h45
  rcases(show c<48\/(¬c<48/\57<c) by omega) with h6|⟨h6,h7⟩
  ·unfold bN at hd⊢
   refine aA (n:=85) (H0:=G) (M:=[(p,.box 60 (gu s q d))]) Tryz.func55 (by kernel_rfl) U (by rw[Tryz.ntmps55];rfl) hd<|?_
   refine Q.rg<|S.dd<|D.al z27 U U U λp2=>Q.as U<|Q.nt<|S.sq<|Q.rg<|Q.mv U<|S.qu (Z.aQ U U (λhd=>hr _ (hd.at_ (k:=1) U)))<|Q.as U<|Q.nt<|UW.block<|Q.rg<|Q.mv U<|S.qu (Z.aQ U U (λhd=>hi1 _ (hd.at_ (k:=1) U)))<|Q.as U<|Q.nt<|S.cF U U<|Q.rg<|Q.mv U<|S.qu (Z.aQ U U (λhd=>hi2 _ (hd.at_ (k:=1) U)))<|Q.as U<|Q.nt<|S.cF U U<|Q.rg<|Q.mv U<|S.qu (Z.aQ U U (λhd=>hi3 _ (hd.at_ (k:=1) U)))<|Q.as U<|Q.nt<|S.cF U U<|Q.rg<|Q.mv U<|S.qu (Z.tT (Z.bs U U U) hne)<|Q.mv U<|Q.on (Z.mv U)<|Q.on (Z.eq (u':=.v (.int .u8 c)) (Z.is Tryz.underlying9 U U (by omega) (by omega)) (by rw[hb0]))<|?_
   refine Q.on (Z.bi U U U)<|Q.on (Z.mv U)<|S.tF 47 (bf (by omega))<|Q.on (Z.mv U)<|Q.on (Z.eq (u':=.v (.int .u8 c)) (Z.is Tryz.underlying9 U U (by omega) (by omega)) (by rw[hb0]))<|?_
   refine Q.on (Z.bi U U U)<|Q.on (Z.mv U)<|?_
   refine S.tD 51 (λuT=>?_) (λuT=>?_)
   omega
   refine Q.of<|Q.of<|Q.of<|Q.on (Z.pick U U)<|Q.on (Z.pick U U)<|Q.pk U U<|Q.as U<|Q.nt<|S.cF U U<|UW.skip<|UQ.aI<|UQ.then<|S.sq<|Q.rg<|S.dd<|D.cn U U (λ_=>vg _)<|?_
   (rintro _ _ ⟨p62,rfl,rfl⟩)
   refine S.dd<|D.YW 0 Du U U λp63=>Q.nt<|UW.block<|?_
   refine S.loop (λ_:List Nat=>[(63,.ptr p63 0),(2,.ptr p2 0),(0,.ptr p 0)]) (λseen=>[(p63,.xE p62 oH.length seen),(p62,.mp oH),(p2,.box 27 (aN zeroV)),(p,.box 60 (gu s q d))]) (λseen=>lq s q seen) WI [] (λi h=>by cases h) ⟨rfl,rfl,rfl,trivial⟩ (by repeat (first|exact List.Sublist.refl _|exact List.nil_sublist _|refine .cons_cons _ ?_|refine .cons _ ?_)) ?_
   rintro seen hj
   have hnone:=hj.none
   focus
    refine Q.rg<|?_
    refine S.dd (D.YX 0 1 U U U U (λh64=>?_) (λXT XU XV TN TP=>?_))
    refine S.qu (Z.ex U U)<|Q.nt<|S.sq<|S.cF U U<|UW.exit<|UQ.pass<|UQ.pass<|UQ.here<|UQ.then<|Q.rg<|S.qu (Z.bd [] dh U U U U U U)<|Q.mv U<|S.qu (Z.aQ U U (λhd=>hw _ (hd.at_ (k:=3) U)))<|S.s<|D.st 2 ay U U U U U U U U λ_=>Q.as U<|Q.nt<|UW.ret<|?_
    rotate_left
    refine S.qu (Z.ex U U)<|Q.nt<|S.sq<|S.cT U U<|UW.skip<|UQ.then<|UW.block<|Q.rg<|S.qu (Z.YY 0 1 U U U U (by assumption))<|?_
    obtain⟨h3',⟨v0,v1,v2,v3,v4⟩,rfl,hwz,XW⟩:=FP hq (by assumption)
    refine S.qu (Z.ex U U)<|S.qu (Z.ex U U)<|S.dd<|D.al z27 U U U λp8=>Q.as U<|S.s<|D.st 0 ay U U U U U U U U λ_=>Q.nt<|Q.rg<|Q.mv U<|Q.mv U<|S.qu (Z.aQ U U (λhd=>Bw p s q d hs hq _ _ U _ (hd.at_ (k:=4) U)))<|Q.nt<|?_
    refine S.cB U (λPk=>?_) (λPk=>?_)
    refine Q.rg<|Q.mv U<|S.qu (Z.iC U)<|Q.fa eu U<|Q.lc 4 bC U U U<|Q.mv U<|S.qu (Z.fC Tryz.underlying9 U)<|S.qu (Z.add (r:=((q+_:Nat):Int)) U U (IntWalk.i64_in _ (by omega)))<|S.qu (Z.iC U)<|Q.fa eu U<|S.s<|D.st 4 bC U U U U U U U U λ_=>Q.nt<|Q.rg<|S.qu (Z.bg 0 ay U U U)<|S.s<|D.st 3 ay U U U U U U U U λ_=>Q.as U<|Q.nt<|UW.ret<|UQ.az<|UQ.aj<|UQ.az<|UQ.aj<|?_
    rotate_left
    refine UW.skip<|UQ.aI<|?_
    refine S.back (seen++[_]) ⟨rfl,rfl,rfl,trivial⟩ (by repeat (first|exact List.Sublist.refl _|exact List.nil_sublist _|refine .cons_cons _ ?_|refine .cons _ ?_)) ?_ ?_
    rotate_left
    rotate_left
   all_goals first
    |exact hj.snoc (by assumption) (by assumption)
    |exact KA (by assumption) (by assumption)
    |(rw[hnone (by assumption)]
      exact bD [(p,.box 60 (gu s q d))] (λhd=>ax U (av (k:=2) hd U U bH bI) (Y U)) (by repeat (first|exact List.nil_sublist _|refine .cons_cons _ ?_|refine .cons _ ?_)) λhd=>⟨_,hd,rfl,zeroV,d,rfl,rfl⟩)
    |(rw[XW (by assumption)]
      exact bD [(p,.box 60 (gu s (q+_) d))] (λhd=>ax U (av (k:=3) hd U U bH bI) (Y U)) (by repeat (first|exact List.nil_sublist _|refine .cons_cons _ ?_|refine .cons _ ?_)) λhd=>⟨_,hd,rfl,rfl,rfl⟩)
  ·unfold bN at hd⊢
   refine aA (n:=85) (H0:=G) (M:=[(p,.box 60 (gu s q d))]) Tryz.func55 (by kernel_rfl) U (by rw[Tryz.ntmps55];rfl) hd<|?_
   focus
    refine Q.rg<|S.dd<|D.al z27 U U U λp2=>Q.as U<|Q.nt<|S.sq<|Q.rg<|Q.mv U<|S.qu (Z.aQ U U (λhd=>hr _ (hd.at_ (k:=1) U)))<|Q.as U<|Q.nt<|UW.block<|Q.rg<|Q.mv U<|S.qu (Z.aQ U U (λhd=>hi1 _ (hd.at_ (k:=1) U)))<|Q.as U<|Q.nt<|S.cF U U<|Q.rg<|Q.mv U<|S.qu (Z.aQ U U (λhd=>hi2 _ (hd.at_ (k:=1) U)))<|Q.as U<|Q.nt<|S.cF U U<|Q.rg<|Q.mv U<|S.qu (Z.aQ U U (λhd=>hi3 _ (hd.at_ (k:=1) U)))<|Q.as U<|Q.nt<|S.cF U U<|Q.rg<|Q.mv U<|S.qu (Z.tT (Z.bs U U U) hne)<|Q.mv U<|Q.on (Z.mv U)<|Q.on (Z.eq (u':=.v (.int .u8 c)) (Z.is Tryz.underlying9 U U (by omega) (by omega)) (by rw[hb0]))<|?_
    refine Q.on (Z.bi U U U)<|Q.on (Z.mv U)<|S.tF 47 (bf (by omega))<|Q.on (Z.mv U)<|Q.on (Z.eq (u':=.v (.int .u8 c)) (Z.is Tryz.underlying9 U U (by omega) (by omega)) (by rw[hb0]))<|?_
    refine Q.on (Z.bi U U U)<|Q.on (Z.mv U)<|?_
    refine S.tD 51 (λuT=>?_) (λuT=>?_)
    rotate_left
    omega
    refine Q.on (Z.mv U)<|Q.on (Z.eq (u':=.v (.int .u8 c)) (Z.is Tryz.underlying9 U U (by omega) (by omega)) (by rw[hb0]))<|?_
    refine Q.on (Z.bi U U U)<|Q.on (Z.pick U U)<|Q.on (Z.pick U U)<|Q.pk U U<|Q.as U<|Q.nt<|S.cF U (decide_eq_false (by omega))<|UW.skip<|UQ.aI<|UQ.then<|S.sq<|Q.rg<|S.dd<|D.cn U U (λ_=>vg _)<|?_
    (rintro _ _ ⟨p62,rfl,rfl⟩)
    refine S.dd<|D.YW 0 Du U U λp63=>Q.nt<|UW.block<|?_
   refine S.loop (λ_:List Nat=>[(63,.ptr p63 0),(2,.ptr p2 0),(0,.ptr p 0)]) (λseen=>[(p63,.xE p62 oH.length seen),(p62,.mp oH),(p2,.box 27 (aN zeroV)),(p,.box 60 (gu s q d))]) (λseen=>lq s q seen) WI [] (λi h=>by cases h) ⟨rfl,rfl,rfl,trivial⟩ (by repeat (first|exact List.Sublist.refl _|exact List.nil_sublist _|refine .cons_cons _ ?_|refine .cons _ ?_)) ?_
   rintro seen hj
   have hnone:=hj.none
   focus
    refine Q.rg<|?_
    refine S.dd (D.YX 0 1 U U U U (λh64=>?_) (λXT XU XV TN TP=>?_))
    refine S.qu (Z.ex U U)<|Q.nt<|S.sq<|S.cF U U<|UW.exit<|UQ.pass<|UQ.pass<|UQ.here<|UQ.then<|Q.rg<|S.qu (Z.bd [] dh U U U U U U)<|Q.mv U<|S.qu (Z.aQ U U (λhd=>hw _ (hd.at_ (k:=3) U)))<|S.s<|D.st 2 ay U U U U U U U U λ_=>Q.as U<|Q.nt<|UW.ret<|?_
    rotate_left
    refine S.qu (Z.ex U U)<|Q.nt<|S.sq<|S.cT U U<|UW.skip<|UQ.then<|UW.block<|Q.rg<|S.qu (Z.YY 0 1 U U U U (by assumption))<|?_
    obtain⟨h3',⟨v0,v1,v2,v3,v4⟩,rfl,hwz,XW⟩:=FP hq (by assumption)
    refine S.qu (Z.ex U U)<|S.qu (Z.ex U U)<|S.dd<|D.al z27 U U U λp8=>Q.as U<|S.s<|D.st 0 ay U U U U U U U U λ_=>Q.nt<|Q.rg<|Q.mv U<|Q.mv U<|S.qu (Z.aQ U U (λhd=>Bw p s q d hs hq _ _ U _ (hd.at_ (k:=4) U)))<|Q.nt<|?_
    refine S.cB U (λPk=>?_) (λPk=>?_)
    refine Q.rg<|Q.mv U<|S.qu (Z.iC U)<|Q.fa eu U<|Q.lc 4 bC U U U<|Q.mv U<|S.qu (Z.fC Tryz.underlying9 U)<|S.qu (Z.add (r:=((q+_:Nat):Int)) U U (IntWalk.i64_in _ (by omega)))<|S.qu (Z.iC U)<|Q.fa eu U<|S.s<|D.st 4 bC U U U U U U U U λ_=>Q.nt<|Q.rg<|S.qu (Z.bg 0 ay U U U)<|S.s<|D.st 3 ay U U U U U U U U λ_=>Q.as U<|Q.nt<|UW.ret<|UQ.az<|UQ.aj<|UQ.az<|UQ.aj<|?_
    rotate_left
    refine UW.skip<|UQ.aI<|?_
    refine S.back (seen++[_]) ⟨rfl,rfl,rfl,trivial⟩ (by repeat (first|exact List.Sublist.refl _|exact List.nil_sublist _|refine .cons_cons _ ?_|refine .cons _ ?_)) ?_ ?_
    rotate_left
    rotate_left
   all_goals first
    |exact hj.snoc (by assumption) (by assumption)
    |exact KA (by assumption) (by assumption)
    |(rw[hnone (by assumption)]
      exact bD [(p,.box 60 (gu s q d))] (λhd=>ax U (av (k:=2) hd U U bH bI) (Y U)) (by repeat (first|exact List.nil_sublist _|refine .cons_cons _ ?_|refine .cons _ ?_)) λhd=>⟨_,hd,rfl,zeroV,d,rfl,rfl⟩)
    |(rw[XW (by assumption)]
      exact bD [(p,.box 60 (gu s (q+_) d))] (λhd=>ax U (av (k:=3) hd U U bH bI) (Y U)) (by repeat (first|exact List.nil_sublist _|refine .cons_cons _ ?_|refine .cons _ ?_)) λhd=>⟨_,hd,rfl,rfl,rfl⟩)
 ·have hu0:s.extract q s.size=⟨#[]⟩:=by
   apply lH
   rw[Bb]
   exact List.eq_nil_of_length_eq_zero (by rw[iq];omega)
  rw[hu0] at hr
  unfold bN at hd⊢
  refine aA (n:=85) (H0:=G) (M:=[(p,.box 60 (gu s q d))]) Tryz.func55 (by kernel_rfl) U (by rw[Tryz.ntmps55];rfl) hd<|?_
  refine Q.rg<|S.dd<|D.al z27 U U U λp2=>Q.as U<|Q.nt<|S.sq<|Q.rg<|Q.mv U<|S.qu (Z.aQ U U (λhd=>hr _ (hd.at_ (k:=1) U)))<|Q.as U<|Q.nt<|UW.block<|Q.rg<|Q.mv U<|S.qu (Z.aQ U U (λhd=>hi1 _ (hd.at_ (k:=1) U)))<|Q.as U<|Q.nt<|S.cF U U<|Q.rg<|Q.mv U<|S.qu (Z.aQ U U (λhd=>hi2 _ (hd.at_ (k:=1) U)))<|Q.as U<|Q.nt<|S.cF U U<|Q.rg<|Q.mv U<|S.qu (Z.aQ U U (λhd=>hi3 _ (hd.at_ (k:=1) U)))<|Q.as U<|Q.nt<|S.cF U U<|Q.rg<|Q.mv U<|S.qu (Z.bs U U U)<|Q.mv U<|?_
  refine S.tO 43 (λWl=>?_) (λWl=>?_)
  contradiction
  refine Q.of<|Q.of<|Q.of<|Q.of<|Q.ou<|Q.ou<|Q.ou<|Q.ou<|Q.ou<|Q.ou<|Q.ou<|Q.ou<|Q.of<|Q.pk U U<|Q.as U<|Q.nt<|S.cF U U<|UW.skip<|UQ.aI<|UQ.then<|S.sq<|Q.rg<|S.dd<|D.cn U U (λ_=>vg _)<|?_
  (rintro _ _ ⟨p62,rfl,rfl⟩)
  refine S.dd<|D.YW 0 Du U U λp63=>Q.nt<|UW.block<|?_
  refine S.loop (λ_:List Nat=>[(63,.ptr p63 0),(2,.ptr p2 0),(0,.ptr p 0)]) (λseen=>[(p63,.xE p62 oH.length seen),(p62,.mp oH),(p2,.box 27 (aN zeroV)),(p,.box 60 (gu s q d))]) (λseen=>lq s q seen) WI [] (λi h=>by cases h) ⟨rfl,rfl,rfl,trivial⟩ (by repeat (first|exact List.Sublist.refl _|exact List.nil_sublist _|refine .cons_cons _ ?_|refine .cons _ ?_)) ?_
  rintro seen hj
  have hnone:=hj.none
  focus
   refine Q.rg<|?_
   refine S.dd (D.YX 0 1 U U U U (λh64=>?_) (λXT XU XV TN TP=>?_))
   refine S.qu (Z.ex U U)<|Q.nt<|S.sq<|S.cF U U<|UW.exit<|UQ.pass<|UQ.pass<|UQ.here<|UQ.then<|Q.rg<|S.qu (Z.bd [] dh U U U U U U)<|Q.mv U<|S.qu (Z.aQ U U (λhd=>hw _ (hd.at_ (k:=3) U)))<|S.s<|D.st 2 ay U U U U U U U U λ_=>Q.as U<|Q.nt<|UW.ret<|?_
   rotate_left
   refine S.qu (Z.ex U U)<|Q.nt<|S.sq<|S.cT U U<|UW.skip<|UQ.then<|UW.block<|Q.rg<|S.qu (Z.YY 0 1 U U U U (by assumption))<|?_
   obtain⟨h3',⟨v0,v1,v2,v3,v4⟩,rfl,hwz,XW⟩:=FP hq (by assumption)
   refine S.qu (Z.ex U U)<|S.qu (Z.ex U U)<|S.dd<|D.al z27 U U U λp8=>Q.as U<|S.s<|D.st 0 ay U U U U U U U U λ_=>Q.nt<|Q.rg<|Q.mv U<|Q.mv U<|S.qu (Z.aQ U U (λhd=>Bw p s q d hs hq _ _ U _ (hd.at_ (k:=4) U)))<|Q.nt<|?_
   refine S.cB U (λPk=>?_) (λPk=>?_)
   refine Q.rg<|Q.mv U<|S.qu (Z.iC U)<|Q.fa eu U<|Q.lc 4 bC U U U<|Q.mv U<|S.qu (Z.fC Tryz.underlying9 U)<|S.qu (Z.add (r:=((q+_:Nat):Int)) U U (IntWalk.i64_in _ (by omega)))<|S.qu (Z.iC U)<|Q.fa eu U<|S.s<|D.st 4 bC U U U U U U U U λ_=>Q.nt<|Q.rg<|S.qu (Z.bg 0 ay U U U)<|S.s<|D.st 3 ay U U U U U U U U λ_=>Q.as U<|Q.nt<|UW.ret<|UQ.az<|UQ.aj<|UQ.az<|UQ.aj<|?_
   rotate_left
   refine UW.skip<|UQ.aI<|?_
   refine S.back (seen++[_]) ⟨rfl,rfl,rfl,trivial⟩ (by repeat (first|exact List.Sublist.refl _|exact List.nil_sublist _|refine .cons_cons _ ?_|refine .cons _ ?_)) ?_ ?_
   rotate_left
   rotate_left
  all_goals first
   |exact hj.snoc (by assumption) (by assumption)
   |exact KA (by assumption) (by assumption)
   |(rw[hnone (by assumption)]
     exact bD [(p,.box 60 (gu s q d))] (λhd=>ax U (av (k:=2) hd U U bH bI) (Y U)) (by repeat (first|exact List.nil_sublist _|refine .cons_cons _ ?_|refine .cons _ ?_)) λhd=>⟨_,hd,rfl,zeroV,d,rfl,rfl⟩)
   |(rw[XW (by assumption)]
     exact bD [(p,.box 60 (gu s (q+_) d))] (λhd=>ax U (av (k:=3) hd U U bH bI) (Y U)) (by repeat (first|exact List.nil_sublist _|refine .cons_cons _ ?_|refine .cons _ ?_)) λhd=>⟨_,hd,rfl,rfl,rfl⟩)
end Go.Proofs.YtbooeongacgnbaaGreatDoor
end
