/- A part of the proof. -/
import Derived.Test.YtbooeongacgnbaaGreatDoorMw09
import Derived.Test.YtbooeongacgnbaaGreatDoorMw08
set_option maxRecDepth 100000
set_option maxHeartbeats 4000000
set_option linter.unusedSectionVars false
set_option linter.unusedVariables false
set_option linter.unusedSimpArgs false
section
namespace Go.Proofs.YtbooeongacgnbaaGreatDoor
open Go Go.gW Go.RowKit
def zeroV:V:=.mk 0 0 ⟨#[]⟩ [] []
def gL(x:V)(key:ByteArray):V×Bool:=match pl x key with
 |some i=>(x.vs.getD i zeroV,true)
 |none=>(zeroV,false)
theorem getD_at{α:Type}{l:List α}{i:Nat}{z:α}(h:i<l.length):l.getD i z=l[i]:=by simp[List.getD,h]
theorem jV{α:Type}{l:List α}{i:Nat}{z:α}(h:i<l.length):l.getD i z∈l:=by rw[getD_at h];exact List.getElem_mem h
theorem Gx(l:List V)(i:Nat)(h:i<l.length):(bE l)[((i:Nat):Int).toNat]? =some (aN (l.getD i zeroV)):=by
 rw[Int.toNat_natCast,jh l i h,getD_at h]
theorem vQ(x:V)(hx:Fits x)(s:ByteArray)(H:Hp):
 F Tryz.prog 101 [.agg (aN x),.v (.string s)] H (bn H (.dH [.agg (aN (gL x s).1),.v (.bool (gL x s).2)])):=by
 obtain⟨k,n,t,ks,vs⟩:=x
 refine aA (n:=19) (H0:=H) (M:=[]) Tryz.func101 (by kernel_rfl) U (by rw[Tryz.ntmps101];rfl) .nil<|?_
 refine Q.rg<|US.box U (by decide) U U U U (by rfl) λp2=>?_
 refine US.zX U (by decide) U U z27 U U U U λp4=>Q.as U<|Q.nt<|Q.rg<|US.oQ U (by decide) U U ay U (k:=1) U (by rfl)<|?_
 refine Q.mv U<|US.gq U (by decide) U U U U (λ_=>ui _ s hx _)<|Q.as U<|Q.nt<|UW.seq<|Q.rg<|?_
 cases hp:pl (.mk k n t ks vs) s with
 |none=>
  have hg:gL (.mk k n t ks vs) s=(zeroV,false):=by unfold gL;rw[hp]
  rw[hg]
  refine Q.mv U<|Q.bi U U U<|Q.nt<|?_
  refine UW.cond U (λ_=>?_) (λh=>absurd h (by simp[oi]))
  refine Q.rg<|US.D8 [] U (by decide) U U dh U U U U U U U U<|US.kW U U U ay U (k:=0) U (by rfl) U U (by rfl) (by rfl) U<|?_
  refine Q.as U<|Q.nt<|UW.ret<|UQ.aj<|?_
  exact bD [] (λhd=>ax U (av (k:=0) hd U U bH bI) (Y U)) (by simp) λhd=>⟨rfl,rfl⟩
 |some i=>
  obtain⟨hlt,_,_⟩:=Gw hp
  simp only[V.vs] at hlt
  have hg:gL (.mk k n t ks vs) s=(vs.getD i zeroV,true):=by unfold gL;rw[hp];rfl
  rw[hg]
  refine Q.mv U<|Q.bi U U U<|Q.nt<|UW.cond U (λh=>absurd (of_decide_eq_true h) (by simp only[oi];omega)) λ_=>?_
  refine UW.skip<|UQ.then<|Q.rg<|US.fieldAddr U (by decide) U U U bQ<|Q.lc 1 dm U U U<|Q.mv U<|US.dN U (by decide) U U bR U U (by simp[oi]) (Gx _ i hlt) (ak _)<|?_
  refine US.iR U (by decide) U U U ay (by exact ak _)<|?_
  refine US.gq U (by decide) U U U U (λ_=>kG (l9 _ (hx.vs _ (jV hlt)) _))<|US.kW U U U ay U (k:=0) U (by rfl) U U (by exact aH _) (by exact ak _) U<|?_
  refine Q.as U<|Q.nt<|UW.ret<|?_
  exact bD [] (λhd=>ax U (av (k:=0) hd U U bH (by rw[ak];exact bI)) (Y U)) (by simp) λhd=>⟨rfl,rfl⟩
def Jh(H:Hp)(x:V)(u:AV)(H':Hp):Prop:=∃news,aK H news/\H'=aB H news/\∃i j rk rv,u=.agg [.v (.int .i64 x.k),.v (.int .i64 x.n),.v (.string x.t),.own i 0 x.ks.length 1,.own j 0 x.vs.length 5]/\news=[(j,.row 27 5 rv),(i,.row 9 1 rk)]/\
 x.ks.length<=rk.length/\rk.take x.ks.length=x.ks.map encS/\x.vs.length<=rv.length/\rv.take x.vs.length=bE x.vs
theorem NT{H:Hp}{news:List (Nat×Ob)}(hd:aK H news){k i len:Nat}{rows rs:List (List AV)}{e sz:Nat}(h:news[k]? =some (i,.row e sz rows))(hl:len<=rows.length)(hr:rows.take len=rs):dw (aB H news) (.own i 0 len sz) H (.sl rs):=by
 have h1:=dw.own (off:=0) (len:=len) (rows':=rows) (jU hd) (hd.at_ h) (hd.base h) (by omega) U (λi cs cs' h1 h2=>by
  rw[h1] at h2;cases h2
  exact⟨rfl,λj u u' h3 h4=>by rw[h3] at h4;cases h4;exact dw.drop (jU hd) u⟩)
 rw[<-hr]
 simpa using h1
theorem Cu{P:Program}{f:Nat}{us:List AV}{H:Hp}{x:V}(h:F P f us H (Jh H x)):F P f us H (bn H (.agg (aN x))):=by
 refine h.post<|?_
 rintro u H1 ⟨news,hd,rfl,i,j,rk,rv,rfl,rfl,h1,h2,h3,h4⟩
 refine⟨.agg (aN x),H,jU hd,?_,rfl,rfl⟩
 obtain⟨k,n,t,ks,vs⟩:=x
 simp only[aN,V.k,V.n,V.t,V.ks,V.vs] at hd h1 h2 h3 h4⊢
 exact Ab (jU hd) (NT hd (k:=1) U h1 h2) (NT hd (k:=0) U h3 h4)
def eP{α:Type}(l:List α)(i:Nat)(x:α):List α:=l.take i++x::l.drop i
theorem K6{H:Hp}{i j:Nat}{a b:Ob}{r:List (Nat×Ob)}(h:aK H ((i,a)::(j,b)::r)):i≠j:=by
 cases h with
 |cons h1 _=>exact Ne.symm ((l6 h1).2 (j,b) (by simp))
def Xe(e sz:Nat)(rows:List (List AV))(i:Nat)(x:List AV)(u:AV)(news:List (Nat×Ob)):Prop:=∃id',u=.own id' 0 (rows.length+1) sz/\news=[(id',.row e sz (eP rows i x))]
theorem dR{α:Type}(l:List α)(i:Nat)(x:α)(hi:i<=l.length):(eP l i x).length=l.length+1:=by unfold eP;simp;omega
theorem K7{α:Type}(l:List α)(i:Nat)(x:α)(h:i=l.length):l.take l.length++[x]=eP l i x:=by subst h;simp[eP]
theorem K8{α:Type}(l:List α)(i:Nat)(x z:α)(h:i<=l.length):(l.take i++List.replicate (l.length+1-i) z).take (0+i)++[x]++(l.take i++List.replicate (l.length+1-i) z).drop (0+i+1)=l.take i++x::List.replicate (l.length-i) z:=by
 have e1:(l.take i).length=i:=by rw[List.length_take];omega
 rw[Nat.zero_add,List.take_left' e1,List.drop_append,e1,List.drop_of_length_le (by omega),List.nil_append,List.drop_replicate]
 have:l.length+1-i-(i+1-i)=l.length-i:=by omega
 rw[this];simp
theorem K9{α:Type}(l:List α)(i:Nat)(x z:α)(h:i<=l.length):(l.take i++x::List.replicate (l.length-i) z).take (0+(i+1))++(l.drop (0+i)).take (l.length-i)++(l.take i++x::List.replicate (l.length-i) z).drop (0+(i+1)+(l.length-i))=eP l i x:=by
 have e1:(l.take i).length=i:=by rw[List.length_take];omega
 have e2:l.take i++x::List.replicate (l.length-i) z=(l.take i++[x])++List.replicate (l.length-i) z:=by simp
 have e3:(l.take i++x::List.replicate (l.length-i) z).drop (0+(i+1)+(l.length-i))=[]:=List.drop_eq_nil_of_le (by(simp;omega))
 have e4:(l.drop (0+i)).take (l.length-i)=l.drop i:=by rw[Nat.zero_add];exact List.take_of_length_le (by rw[List.length_drop];omega)
 rw[e3,e4,e2,Nat.zero_add,List.take_left' (by(simp;omega))]
 simp[eP]
theorem Cv{α:Type}(l:List α)(i:Nat)(h:i<l.length):l.take (0+(i+1))++(l.drop (0+i)).take (l.length-i)++l.drop (0+(i+1)+(l.length-i))=l.take (i+1)++l.drop i:=by
 have e3:l.drop (0+(i+1)+(l.length-i))=[]:=List.drop_eq_nil_of_le (by omega)
 have e4:(l.drop (0+i)).take (l.length-i)=l.drop i:=by rw[Nat.zero_add];exact List.take_of_length_le (by rw[List.length_drop];omega)
 rw[e3,e4,Nat.zero_add,List.append_nil]
theorem Gy{α:Type}(l:List α)(i:Nat)(x:α)(h:i<l.length):(l.take (i+1)++l.drop i).take (0+i)++[x]++(l.take (i+1)++l.drop i).drop (0+i+1)=eP l i x:=by
 have e1:(l.take (i+1)).length=i+1:=by rw[List.length_take];omega
 rw[Nat.zero_add,List.take_append_of_le_length (by omega),List.take_take,Nat.min_eq_left (by omega),List.drop_left' e1]
 simp[eP]
theorem Ef(rows:List (List AV))(hr:∀cs∈rows,cs.length=1)(hb:rows.length<=1000000)(x:List AV)(hx1:x.length=1)(i:Nat)(hi:i<=rows.length)(id iG:Nat)(H:Hp)(hD:aK H [(id,.row 9 1 rows),(iG,.row 9 1 [x])]):
 F Tryz.prog 124 [.own id 0 rows.length 1,.v (.int .i64 (i:Int)),.own iG 0 1 1] (aB H [(id,.row 9 1 rows),(iG,.row 9 1 [x])])
  (λu H'=>∃news,aK H news/\H'=aB H news/\Xe 9 1 rows i x u news):=by
 have hne:id≠iG:=K6 hD
 refine aA (n:=95) (H0:=H) (M:=[(id,.row 9 1 rows),(iG,.row 9 1 [x])]) Tryz.func124 (by kernel_rfl) U (by rw[Tryz.ntmps124];rfl) hD<|?_
 focus
  refine Q.rg<|Q.as U<|Q.nt<|Q.rg<|Q.mv U<|Q.mv U<|S.qu (Z.zY bS U (.lo U) (by omega) (by omega))<|Q.nt<|Q.rg<|Q.mv U<|S.qu (Z.Co bS U)<|Q.as U<|Q.nt<|S.sq<|Q.rg<|Q.mv U<|Q.bi U U U<|Q.nt<|S.cF U (bf (by omega))<|UW.skip<|UQ.then<|Q.rg<|Q.mv U<|S.qu (Z.Co bS U)<|Q.as U<|Q.nt<|S.sq<|Q.rg<|Q.mv U<|Q.mv U<|Q.bi U U U<|Q.nt<|?_
  refine S.cE U (λhc0=>?_) (λhc0=>?_)
  refine Q.rg<|Q.mv U<|Q.mv U<|S.dd<|D.ap 0 iM U U (by omega) U (.own (k:=1) (rs:=[x]) U (by simp) U) (by(simp;omega)) (K7 rows i x (by omega)) λp25=>?_
  refine Q.as U<|Q.nt<|UW.ret<|UQ.aj<|?_
  rotate_left
  refine UW.skip<|UQ.then<|S.sq<|Q.rg<|Q.mv U<|Q.mv U<|S.qu (Z.add U U (IntWalk.i64_in _ (by omega)))<|Q.mv U<|S.dd<|D.cap 0 bS U U (by omega) λc hc1 hc2 hc3=>Q.bi U U U<|Q.nt<|?_
  refine S.cD U (λhc1=>?_) (λhc1=>?_)
  refine Q.rg<|Q.mv U<|Q.mv U<|S.qu (Z.zY bS U (.hi U) (by omega) (by omega))<|Q.mv U<|Q.mv U<|S.qu (Z.add U U (IntWalk.i64_in _ (by omega)))<|Q.mv U<|S.qu (Z.sub (r:=((rows.length+1-i:Nat):Int)) U U (Eq.trans (IntWalk.i64_in _ (by omega)) (by omega)))<|S.dd<|D.ZF 0 iM Tryz.underlying3 U U U (by omega) (by omega) (by omega) (by omega) z9 U U λp40 YG=>Q.as U<|Q.nt<|Q.rg<|Q.mv U<|Q.mv U<|S.qu (Z.zY bS U (.lo U) (by omega) (by omega))<|Q.mv U<|S.dd<|D.Yb 0 bS U U U (by omega) (.of (.own (k:=2) (rs:=[x]) U (by simp) U) (m:=1) (by simp) U U) (m:=1) (by(simp[Nat.min_def];omega)) U (by(simp;omega)) (K8 rows i x _ hi)<|?_
  refine Q.nt<|S.sq<|?_
  refine' UW.dC (by kernel_rfl) [0,0,0,6,15,0,0,96,255] [some 46,some 47,some 48,some 49,some 50,some 51,some 52,some 53,none] [some (46,_),some (47,_),some (48,_),some (49,_),some (50,_),some (51,_),some (52,_),some (53,_),none] [8] [] U (by decide) (by decide) (I.free (by decide) U U ?Ui (I.free (by decide) U U ?Uj (I.free (by decide) U U ?Uk (I.free (by decide) U U ?Ul (I.free (by decide) U U ?Um (I.free (by decide) U U ?Un (I.free (by decide) U U ?Uo (I.free (by decide) U U ?Uq (I.skip I.nil))))))))) ?YH
  case Ui=>(intro _;exact Z.mv rfl)
  case Uj=>(intro _;exact Z.mv rfl)
  case Uk=>(intro _;exact Z.mv rfl)
  case Ul=>(intro _;exact Z.add (r:=((i+1:Nat):Int)) rfl rfl (Eq.trans (IntWalk.i64_in _ (by omega)) (by omega)))
  case Um=>(intro _;exact Z.zY bS rfl (.lo rfl) (by omega) (by omega))
  case Un=>(intro _;exact Z.mv rfl)
  case Uo=>(intro _;exact Z.mv rfl)
  case Uq=>(intro _;exact Z.zY bS rfl (.lo rfl) (by omega) (by omega))
  refine CH.cons U U (by decide)<|D.Yb 0 bS U U U (by omega) (.iP (k:=1) (m:=rows.length-i) U (by omega) (by omega) U) (m:=rows.length-i) (by(simp[Nat.min_def];omega)) (by(simp;done)) (by(simp;omega)) (K9 rows i x _ hi)<|?_
  refine CH.nil<|?_
  simp only[app,bV]
  refine UQ.then<|Q.rg<|Q.mv U<|Q.as U<|Q.nt<|UW.ret<|UQ.aj<|?_
  rotate_left
  refine UW.skip<|UQ.then<|Q.rg<|Q.mv U<|Q.mv U<|Q.mv U<|S.qu (Z.add (r:=((rows.length+1:Nat):Int)) U U (Eq.trans (IntWalk.i64_in _ (by omega)) (by omega)))<|S.dd<|D.ZE 0 bS U U (by omega) (.hi U) (by simp) (by omega) (by omega)<|?_
  refine Q.as U<|Q.nt<|S.sq<|Q.rg<|Q.mv U<|Q.mv U<|Q.mv U<|Q.mv U<|S.qu (Z.add (r:=((i+1:Nat):Int)) U U (Eq.trans (IntWalk.i64_in _ (by omega)) (by omega)))<|S.qu (Z.zY bS U (.lo U) (by omega) (by omega))<|?_
  refine S.dd (D.ZG (tr:=4) 1 0 Tryz.func143 bS U U U U U (Ne.symm hne) (by omega) (by omega) ?_ (by kernel_rfl))
  refine S.qu (Z.not U)<|Q.nt<|S.cT U U<|S.sq<|?_
  refine' UW.dC (by kernel_rfl) [0,0,0,6,15,0,0,96,255] [some 69,some 70,some 71,some 72,some 73,some 74,some 75,some 76,none] [some (69,_),some (70,_),some (71,_),some (72,_),some (73,_),some (74,_),some (75,_),some (76,_),none] [8] [] U (by decide) (by decide) (I.free (by decide) U U ?Ur (I.free (by decide) U U ?Us (I.free (by decide) U U ?Ut (I.free (by decide) U U ?Uu (I.free (by decide) U U ?Uv (I.free (by decide) U U ?Uw (I.free (by decide) U U ?Ux (I.free (by decide) U U ?Uy (I.skip I.nil))))))))) ?YI
  case Ur=>(intro _;exact Z.mv rfl)
  case Us=>(intro _;exact Z.mv rfl)
  case Ut=>(intro _;exact Z.mv rfl)
  case Uu=>(intro _;exact Z.add (r:=((i+1:Nat):Int)) rfl rfl (Eq.trans (IntWalk.i64_in _ (by omega)) (by omega)))
  case Uv=>(intro _;exact Z.zY bS rfl (.lo rfl) (by omega) (by omega))
  case Uw=>(intro _;exact Z.mv rfl)
  case Ux=>(intro _;exact Z.mv rfl)
  case Uy=>(intro _;exact Z.zY bS rfl (.lo rfl) (by omega) (by omega))
  refine CH.cons U U (by decide)<|D.Yc 0 bS U U U (by omega) (.iP (k:=0) (m:=rows.length-i) U (by omega) (by omega) U) (m:=rows.length-i) (by(simp[Nat.min_def];omega)) (by(simp;done)) (by omega) (by omega) (Cv rows i (by omega))<|?_
  refine CH.nil<|?_
  simp only[app,bV]
  refine UQ.then<|Q.rg<|Q.mv U<|Q.mv U<|S.qu (Z.zY bS U (.lo U) (by omega) (by omega))<|Q.mv U<|S.dd<|D.Yc 0 bS U U U (by omega) (.of (.own (k:=1) (rs:=[x]) U (by simp) U) (m:=1) (by simp) U U) (m:=1) (by(simp[Nat.min_def];omega)) U (by(simp;omega)) (by omega) (Gy rows i x (by omega))<|?_
  refine Q.nt<|Q.rg<|Q.mv U<|Q.as U<|?_
  refine US.retag 6 0 U U (by omega) (λid'=>?_)
  refine Q.nt<|UW.ret<|UQ.aj<|?_
  rotate_left
 all_goals exact bD [_] (λ_=>au U U) (.cons_cons _ (List.nil_sublist _)) λhd=>⟨_,hd,rfl,_,by first|rfl|(congr 1;omega),rfl⟩
theorem Eg(rows:List (List AV))(hr:∀cs∈rows,cs.length=5)(hb:rows.length<=1000000)(x:List AV)(hx1:x.length=5)(i:Nat)(hi:i<=rows.length)(id iG:Nat)(H:Hp)(hD:aK H [(id,.row 27 5 rows),(iG,.row 27 5 [x])]):
 F Tryz.prog 125 [.own id 0 rows.length 5,.v (.int .i64 (i:Int)),.own iG 0 1 5] (aB H [(id,.row 27 5 rows),(iG,.row 27 5 [x])])
  (λu H'=>∃news,aK H news/\H'=aB H news/\Xe 27 5 rows i x u news):=by
 have hne:id≠iG:=K6 hD
 refine aA (n:=95) (H0:=H) (M:=[(id,.row 27 5 rows),(iG,.row 27 5 [x])]) Tryz.func125 (by kernel_rfl) U (by rw[Tryz.ntmps125];rfl) hD<|?_
 focus
  refine Q.rg<|Q.as U<|Q.nt<|Q.rg<|Q.mv U<|Q.mv U<|S.qu (Z.zY bR U (.lo U) (by omega) (by omega))<|Q.nt<|Q.rg<|Q.mv U<|S.qu (Z.Co bR U)<|Q.as U<|Q.nt<|S.sq<|Q.rg<|Q.mv U<|Q.bi U U U<|Q.nt<|S.cF U (bf (by omega))<|UW.skip<|UQ.then<|Q.rg<|Q.mv U<|S.qu (Z.Co bR U)<|Q.as U<|Q.nt<|S.sq<|Q.rg<|Q.mv U<|Q.mv U<|Q.bi U U U<|Q.nt<|?_
  refine S.cE U (λhc0=>?_) (λhc0=>?_)
  refine Q.rg<|Q.mv U<|Q.mv U<|S.dd<|D.ap 0 iw U U (by omega) U (.own (k:=1) (rs:=[x]) U (by simp) U) (by(simp;omega)) (K7 rows i x (by omega)) λp25=>?_
  refine Q.as U<|Q.nt<|UW.ret<|UQ.aj<|?_
  rotate_left
  refine UW.skip<|UQ.then<|S.sq<|Q.rg<|Q.mv U<|Q.mv U<|S.qu (Z.add U U (IntWalk.i64_in _ (by omega)))<|Q.mv U<|S.dd<|D.cap 0 bR U U (by omega) λc hc1 hc2 hc3=>Q.bi U U U<|Q.nt<|?_
  refine S.cD U (λhc1=>?_) (λhc1=>?_)
  refine Q.rg<|Q.mv U<|Q.mv U<|S.qu (Z.zY bR U (.hi U) (by omega) (by omega))<|Q.mv U<|Q.mv U<|S.qu (Z.add U U (IntWalk.i64_in _ (by omega)))<|Q.mv U<|S.qu (Z.sub (r:=((rows.length+1-i:Nat):Int)) U U (Eq.trans (IntWalk.i64_in _ (by omega)) (by omega)))<|S.dd<|D.ZF 0 iw Tryz.underlying3 U U U (by omega) (by omega) (by omega) (by omega) z27 U U λp40 YG=>Q.as U<|Q.nt<|Q.rg<|Q.mv U<|Q.mv U<|S.qu (Z.zY bR U (.lo U) (by omega) (by omega))<|Q.mv U<|S.dd<|D.Yb 0 bR U U U (by omega) (.of (.own (k:=2) (rs:=[x]) U (by simp) U) (m:=1) (by simp) U U) (m:=1) (by(simp[Nat.min_def];omega)) U (by(simp;omega)) (K8 rows i x _ hi)<|?_
  refine Q.nt<|S.sq<|?_
  refine' UW.dC (by kernel_rfl) [0,0,0,6,15,0,0,96,255] [some 46,some 47,some 48,some 49,some 50,some 51,some 52,some 53,none] [some (46,_),some (47,_),some (48,_),some (49,_),some (50,_),some (51,_),some (52,_),some (53,_),none] [8] [] U (by decide) (by decide) (I.free (by decide) U U ?Ui (I.free (by decide) U U ?Uj (I.free (by decide) U U ?Uk (I.free (by decide) U U ?Ul (I.free (by decide) U U ?Um (I.free (by decide) U U ?Un (I.free (by decide) U U ?Uo (I.free (by decide) U U ?Uq (I.skip I.nil))))))))) ?YH
  case Ui=>(intro _;exact Z.mv rfl)
  case Uj=>(intro _;exact Z.mv rfl)
  case Uk=>(intro _;exact Z.mv rfl)
  case Ul=>(intro _;exact Z.add (r:=((i+1:Nat):Int)) rfl rfl (Eq.trans (IntWalk.i64_in _ (by omega)) (by omega)))
  case Um=>(intro _;exact Z.zY bR rfl (.lo rfl) (by omega) (by omega))
  case Un=>(intro _;exact Z.mv rfl)
  case Uo=>(intro _;exact Z.mv rfl)
  case Uq=>(intro _;exact Z.zY bR rfl (.lo rfl) (by omega) (by omega))
  refine CH.cons U U (by decide)<|D.Yb 0 bR U U U (by omega) (.iP (k:=1) (m:=rows.length-i) U (by omega) (by omega) U) (m:=rows.length-i) (by(simp[Nat.min_def];omega)) (by(simp;done)) (by(simp;omega)) (K9 rows i x _ hi)<|?_
  refine CH.nil<|?_
  simp only[app,bV]
  refine UQ.then<|Q.rg<|Q.mv U<|Q.as U<|Q.nt<|UW.ret<|UQ.aj<|?_
  rotate_left
  refine UW.skip<|UQ.then<|Q.rg<|Q.mv U<|Q.mv U<|Q.mv U<|S.qu (Z.add (r:=((rows.length+1:Nat):Int)) U U (Eq.trans (IntWalk.i64_in _ (by omega)) (by omega)))<|S.dd<|D.ZE 0 bR U U (by omega) (.hi U) (by simp) (by omega) (by omega)<|?_
  refine Q.as U<|Q.nt<|S.sq<|Q.rg<|Q.mv U<|Q.mv U<|Q.mv U<|Q.mv U<|S.qu (Z.add (r:=((i+1:Nat):Int)) U U (Eq.trans (IntWalk.i64_in _ (by omega)) (by omega)))<|S.qu (Z.zY bR U (.lo U) (by omega) (by omega))<|?_
  refine S.dd (D.ZG (tr:=4) 1 0 Tryz.func145 bR U U U U U (Ne.symm hne) (by omega) (by omega) ?_ (by kernel_rfl))
  refine S.qu (Z.not U)<|Q.nt<|S.cT U U<|S.sq<|?_
  refine' UW.dC (by kernel_rfl) [0,0,0,6,15,0,0,96,255] [some 69,some 70,some 71,some 72,some 73,some 74,some 75,some 76,none] [some (69,_),some (70,_),some (71,_),some (72,_),some (73,_),some (74,_),some (75,_),some (76,_),none] [8] [] U (by decide) (by decide) (I.free (by decide) U U ?Ur (I.free (by decide) U U ?Us (I.free (by decide) U U ?Ut (I.free (by decide) U U ?Uu (I.free (by decide) U U ?Uv (I.free (by decide) U U ?Uw (I.free (by decide) U U ?Ux (I.free (by decide) U U ?Uy (I.skip I.nil))))))))) ?YI
  case Ur=>(intro _;exact Z.mv rfl)
  case Us=>(intro _;exact Z.mv rfl)
  case Ut=>(intro _;exact Z.mv rfl)
  case Uu=>(intro _;exact Z.add (r:=((i+1:Nat):Int)) rfl rfl (Eq.trans (IntWalk.i64_in _ (by omega)) (by omega)))
  case Uv=>(intro _;exact Z.zY bR rfl (.lo rfl) (by omega) (by omega))
  case Uw=>(intro _;exact Z.mv rfl)
  case Ux=>(intro _;exact Z.mv rfl)
  case Uy=>(intro _;exact Z.zY bR rfl (.lo rfl) (by omega) (by omega))
  refine CH.cons U U (by decide)<|D.Yc 0 bR U U U (by omega) (.iP (k:=0) (m:=rows.length-i) U (by omega) (by omega) U) (m:=rows.length-i) (by(simp[Nat.min_def];omega)) (by(simp;done)) (by omega) (by omega) (Cv rows i (by omega))<|?_
  refine CH.nil<|?_
  simp only[app,bV]
  refine UQ.then<|Q.rg<|Q.mv U<|Q.mv U<|S.qu (Z.zY bR U (.lo U) (by omega) (by omega))<|Q.mv U<|S.dd<|D.Yc 0 bR U U U (by omega) (.of (.own (k:=1) (rs:=[x]) U (by simp) U) (m:=1) (by simp) U U) (m:=1) (by(simp[Nat.min_def];omega)) U (by(simp;omega)) (by omega) (Gy rows i x (by omega))<|?_
  refine Q.nt<|Q.rg<|Q.mv U<|Q.as U<|?_
  refine US.retag 6 0 U U (by omega) (λid'=>?_)
  refine Q.nt<|UW.ret<|UQ.aj<|?_
  rotate_left
 all_goals exact bD [_] (λ_=>au U U) (.cons_cons _ (List.nil_sublist _)) λhd=>⟨_,hd,rfl,_,by first|rfl|(congr 1;omega),rfl⟩
def Mg:List Int->Int
 |[]=>0
 |a::r=>r.foldl (λm c=>if c>m then c else m) a
mutual
def tK:V->Int
 | .mk k _ _ _ vs=>if k=4\/k=5 then 1+Mg (Ac vs++[0]) else 0
def Ac:List V->List Int
 |[]=>[]
 |x::r=>tK x::Ac r
end
theorem Cw:∀l:List V,Ac l=l.map tK
 |[]=>rfl
 |x::r=>by rw[Ac,Cw r];rfl
theorem pW{a:Int}:∀{r:List Int} {b:Int},b<=a->(∀c∈r,c<=a)->r.foldl (λm c=>if c>m then c else m) b<=a
 |[],_,h,_=>h
 |c::r,b,h,h2=>by
  simp only[List.foldl_cons]
  refine pW ?_ (λc' hc'=>h2 c' (by simp[hc']))
  split
  ·exact h2 c (by simp)
  ·exact h
theorem mM:∀{r:List Int} {b:Int},b<=r.foldl (λm c=>if c>m then c else m) b/\∀c∈r,c<=r.foldl (λm c=>if c>m then c else m) b
 |[],_=>⟨Int.le_refl _,by simp⟩
 |c::r,b=>by
  simp only[List.foldl_cons]
  have ih:=mM (r:=r) (b:=if c>b then c else b)
  refine⟨?_,λc' hc'=>?_⟩
  ·refine Int.le_trans ?_ ih.1
   split<;>omega
  ·rcases List.mem_cons.1 hc' with rfl|h
   ·refine Int.le_trans ?_ ih.1
    split<;>omega
   ·exact ih.2 c' h
theorem Eh{l:List Int}{c:Int}(h:c∈l):c<=Mg l:=by
 cases l with
 |nil=>simp at h
 |cons a r=>
  rcases List.mem_cons.1 h with rfl|h
  ·exact mM.1
  ·exact mM.2 c h
theorem Ei(x:V):0<=tK x:=by
 obtain⟨k,n,t,ks,vs⟩:=x
 unfold tK
 split
 ·have:=Eh (l:=Ac vs++[0]) (c:=0) (by simp)
  omega
 ·omega
def pre(s p:ByteArray):Bool:=decide (p.size<=s.size)&&(s.extract 0 p.size).toList==p.toList
def Ej(a b:ByteArray):Int:=Lib.compareBytes a.data.toList b.data.toList
theorem uj(s p:ByteArray)(H:Hp):
 F Tryz.prog 161 [.v (.string s),.v (.string p)] H (bn H (.v (.int .i64 (Ej s p)))):=by
 refine aA (n:=8) (H0:=H) (M:=[]) Tryz.func161 (by kernel_rfl) U (by rw[Tryz.ntmps161];rfl) .nil<|?_
 refine Q.rg<|Q.as U<|Q.nt<|Q.rg<|Q.mv U<|Q.mv U<|US.compare U (by decide) U U U Tryz.func171 (by kernel_rfl) (by kernel_rfl) (by kernel_rfl) (by kernel_rfl) U U<|Q.as U<|Q.nt<|UW.ret<|?_
 exact bD [] (λ_=>au U U) (by simp) λhd=>⟨rfl,rfl⟩
theorem El(s p:ByteArray)(H:Hp):
 F Tryz.prog 142 [.v (.string s),.v (.string p)] H (bn H (.v (.int .i64 (Ej s p)))):=by
 refine aA (n:=8) (H0:=H) (M:=[]) Tryz.func142 (by kernel_rfl) U (by rw[Tryz.ntmps142];rfl) .nil<|?_
 refine Q.rg<|Q.as U<|Q.nt<|Q.rg<|Q.mv U<|Q.mv U<|US.gq U (by decide) U U U U (λ_=>uj s p _)<|Q.as U<|Q.nt<|UW.ret<|?_
 exact bD [] (λ_=>au U U) (by simp) λhd=>⟨rfl,rfl⟩
theorem Mh(s p:ByteArray)(H:Hp):
 F Tryz.prog 123 [.v (.string s),.v (.string p)] H (bn H (.v (.bool (decide (Ej s p<0))))):=by
 refine aA (n:=9) (H0:=H) (M:=[]) Tryz.func123 (by kernel_rfl) U (by rw[Tryz.ntmps123];rfl) .nil<|?_
 refine Q.rg<|Q.as U<|Q.nt<|Q.rg<|Q.mv U<|Q.mv U<|US.gq U (by decide) U U U U (λ_=>El s p _)<|Q.bi U U U<|Q.as U<|Q.nt<|UW.ret<|?_
 exact bD [] (λ_=>au U U) (by simp) λhd=>⟨rfl,rfl⟩
def vR:ByteArray:=⟨#[0xEF,0xBF,0xBD]⟩
def Ad(s:ByteArray)(pos:Nat):Bool:=(Utf8.decode s pos).1==65533&&!(pre (s.extract pos s.size) vR)
def Gz(s:ByteArray):Nat->Nat->Int
 |0,_=> -1
 |f+1,pos=>if pos<s.size then(if Ad s pos then(pos:Int) else Gz s f (pos+(Utf8.decode s pos).2)) else-1
def nu(s:ByteArray):Int:=Gz s (s.size+1) 0
theorem GA(s:ByteArray)(pos:Nat)(h:pos<s.size):1<=(Utf8.decode s pos).2:=by
 by_cases ha:(s[pos]'h).toNat<128
 ·rw[decode_ascii s pos h ha];exact Nat.le_refl _
 ·exact(decode_high s pos h (by omega)).2
def iO(a b:ByteArray):Bool:=decide (Ej a b<0)
theorem qJ(l:List ByteArray)(f:Nat)(dD:List AV)(g:ByteArray->Bool)(hl:l.length<=1000000)(H:Hp)(hc:∀x∈l,∀H',Sub H H'->F Tryz.prog f ([.v (.string x)]++dD) H' (bn H' (.v (.bool (g x))))):
 F Tryz.prog 121 [strs l,.lW f dD] H (bn H (.v (.int .i64 (oi (l.findIdx? g))))):=by
 have BM:(l.map encS).length=l.length:=List.length_map ..
 refine aA (n:=19) (H0:=H) (M:=[]) Tryz.func121 (by kernel_rfl) U (by rw[Tryz.ntmps121];rfl) .nil<|?_
 refine Q.rg<|Q.as U<|Q.nt<|S.sq<|Q.rg<|Q.mv U<|S.qu (Z.iy bS U)<|Q.mv U<|Q.nt<|UW.block<|S.loop (λk:Nat=>[(8,.v (.int .i64 (k:Int))),(6,strs l),(7,.v (.int .i64 ((l.map encS).length:Int))),(0,strs l),(1,.lW f dD)]) (λ_=>[]) (λk=>k<=l.length/\∀(j:Nat) (h:j<l.length),j<k->g l[j]=false) (λk=>l.length-k) 0 ⟨Nat.zero_le _,λj _ h=>absurd h (by omega)⟩ ⟨rfl,rfl,rfl,rfl,rfl,trivial⟩ (.refl _)<|?_
 rintro k ⟨hk,hj⟩
 by_cases hlt:k<l.length
 ·focus
   refine Q.rg<|Q.bi U U U<|Q.nt<|S.sq<|S.cT U (decide_eq_true (by omega))<|UW.skip<|UQ.then<|S.sq<|UW.block<|Q.rg<|Q.mv U<|Q.as U<|Q.nt<|Q.rg<|Q.mv U<|Q.mv U<|Q.mv U<|S.qu (Z.ia bS U U (by omega) (gT _ _ (by omega)) U)<|S.qu (Z.lF fJ U)<|S.qu (Z.aQ U U (λhd=>hc _ (List.getElem_mem hlt) _ (jU hd)))<|Q.nt<|?_
   refine S.cB U (λhc0=>?_) (λhc0=>?_)
   refine Q.rg<|Q.mv U<|Q.as U<|Q.nt<|UW.ret<|UQ.az<|UQ.aj<|UQ.aj<|UQ.az<|UQ.aj<|S.bG (λ_=>au U U)<|?_
   rotate_left
   refine UW.skip<|UQ.aI<|UQ.then<|S.rg<|S.qu (Z.add (r:=((k+1:Nat):Int)) U U (IntWalk.i64_in _ (by omega)))<|Q.mv U<|US.nil<|?_
   refine S.back _ ⟨rfl,rfl,rfl,rfl,rfl,trivial⟩ (.refl _) ?_ (by omega)
   rotate_left
  ·rw[(List.findIdx?_eq_some_iff_getElem).2 ⟨hlt,hc0,λj hjk=>by rw[hj j (by omega) hjk];simp⟩];rfl
  ·refine⟨by omega,λj h3 h4=>?_⟩
   by_cases hjk:j=k
   ·subst hjk;exact hc0
   ·exact hj j h3 (by omega)
 ·refine Q.rg<|Q.bi U U U<|Q.nt<|S.sq<|S.cF U (decide_eq_false (by omega))<|UW.exit<|UQ.pass<|UQ.pass<|UQ.here<|UQ.then<|Q.rg<|Q.as U<|Q.nt<|UW.ret<|S.bG (λ_=>au U U)<|?_
  rw[(List.findIdx?_eq_none_iff).2 (λx hx=>by
   obtain⟨j,hj2,rfl⟩:=List.getElem_of_mem hx
   exact hj j hj2 (by omega))];rfl
theorem Ae(k key:ByteArray)(p:Nat)(H:Hp)(hp:H p=some (.box 9 [.v (.string key)])):F Tryz.prog 122 [.v (.string k),.ptr p 0] H (bn H (.v (.bool (!(iO k key))))):=by
 refine aA (n:=8) (H0:=H) (M:=[]) Tryz.func122 (by kernel_rfl) U (by rw[Tryz.ntmps122];rfl) .nil<|?_
 refine Q.rg<|Q.as U<|Q.nt<|Q.rg<|Q.mv U<|S.qu (Z.WY (by assumption) fJ U U)<|?_
 refine S.qu (Z.call U U (λ_=>Mh _ _ _))<|S.qu (Z.not U)<|Q.as U<|Q.nt<|UW.ret<|S.bG (λ_=>au U U)<|?_
 rfl
def uk(ks:List ByteArray)(key:ByteArray):Int:=oi (ks.findIdx? λk=>!(iO k key))
def iW(ks:List ByteArray)(key:ByteArray):Nat:=if uk ks key<0 then ks.length else(uk ks key).toNat
theorem Mi(ks:List ByteArray)(key:ByteArray):uk ks key<=ks.length:=by
 unfold uk
 cases h:ks.findIdx? (λk=>!(iO k key)) with
 |none=>show(-1:Int)<=_;omega
 |some i=>
  have:=(List.findIdx?_eq_some_iff_getElem.1 h).1
  show(i:Int)<=_;omega
theorem GD(ks:List ByteArray)(key:ByteArray):iW ks key<=ks.length:=by
 have:=Mi ks key
 unfold iW;split<;>omega
def dS(x:V):V:=if x.k=5 then x else .mk 5 0 ⟨#[]⟩ [] []
def dE(x:V)(key:ByteArray)(y:V):V:=match pl (dS x) key with
 |some i=> .mk (dS x).k (dS x).n (dS x).t (cutV (dS x)).ks ((cutV (dS x)).vs.set i y)
 |none=> .mk (dS x).k (dS x).n (dS x).t (eP (cutV (dS x)).ks (iW (cutV (dS x)).ks key) key) (eP (cutV (dS x)).vs (iW (cutV (dS x)).ks key) y)
theorem rA(x:V):(cutV x).ks.length=(cutV x).vs.length:=by simp[cutV,V.ks,V.vs]
theorem oC{α:Type}(l:List α)(n:Nat)(h:l.length=n):(l.drop 0).take n=l:=by subst h;simp
theorem GG(l:List V)(i:Nat)(x:V):bE (eP l i x)=eP (bE l) i (aN x):=by simp[dY,eP]
theorem NU{x:V}{key:ByteArray}(hx:Fits x){i:Nat}(hp:pl x key=some i)(H:Hp):F Tryz.prog 118 [.agg (aN x),.v (.string key)] H (bn H (.v (.int .i64 (i:Int)))):=by
 have:=ui x key hx H;rw[hp] at this;exact this
theorem Af{x:V}{key:ByteArray}(hx:Fits x)(hp:pl x key=none)(H:Hp):F Tryz.prog 118 [.agg (aN x),.v (.string key)] H (bn H (.v (.int .i64 (-1)))):=by
 have:=ui x key hx H;rw[hp] at this;exact this
theorem Cx{α:Type}(l:List α)(i:Nat)(a b:α)(h:i<=l.length):(eP l i a).set i b=eP l i b:=by
 unfold eP
 rw[List.set_append_right _ _ (by rw[List.length_take];omega)]
 have:i-(l.take i).length=0:=by rw[List.length_take];omega
 rw[this];rfl
theorem um(ks:List ByteArray)(key:ByteArray)(i:Nat)(hi:i<=ks.length)(hl:ks.length<=1000000)(id iG:Nat)(G:Hp)(hD:aK G [(id,.row 9 1 (ks.map encS)),(iG,.row 9 1 [[.v (.string key)]])]):
 F Tryz.prog 124 [.own id 0 ks.length 1,.v (.int .i64 (i:Int)),.own iG 0 1 1] (aB G [(id,.row 9 1 (ks.map encS)),(iG,.row 9 1 [[.v (.string key)]])])
  (λu H'=>∃news,aK G news/\H'=aB G news/\∃id',u=.own id' 0 (ks.length+1) 1/\news=[(id',.row 9 1 ((eP ks i key).map encS))]):=by
 have e1:(ks.map encS).length=ks.length:=List.length_map ..
 have:=Ef (ks.map encS) (nO _) (by omega) (encS key) U i (by omega) id iG G hD
 rw[e1] at this
 refine this.mono λu H' ⟨news,h1,h2,id',h3,h4⟩=>⟨news,h1,h2,id',by rw[h3,e1],?_⟩
 rw[h4];simp[eP]
theorem uo(vs:List V)(y:V)(i:Nat)(hi:i<=vs.length)(hl:vs.length<=1000000)(id iG:Nat)(G:Hp)(hD:aK G [(id,.row 27 5 (bE vs)),(iG,.row 27 5 [aN y])]):
 F Tryz.prog 125 [.own id 0 vs.length 5,.v (.int .i64 (i:Int)),.own iG 0 1 5] (aB G [(id,.row 27 5 (bE vs)),(iG,.row 27 5 [aN y])])
  (λu H'=>∃news,aK G news/\H'=aB G news/\∃id',u=.own id' 0 (vs.length+1) 5/\news=[(id',.row 27 5 (bE (eP vs i y)))]):=by
 have e1:=aS vs
 have:=Eg (bE vs) (iV _) (by omega) (aN y) (ak _) i (by omega) id iG G hD
 rw[e1] at this
 refine this.mono λu H' ⟨news,h1,h2,id',h3,h4⟩=>⟨news,h1,h2,id',by rw[h3,e1],?_⟩
 rw[h4,GG]
theorem Cy{ks:List ByteArray}{key:ByteArray}(hl:ks.length<=1000000)(hf:ks.findIdx? (λk=>!(iO k key))=none)(p4:Nat)(H:Hp)(hp:H p4=some (.box 9 [.v (.string key)])):
 F Tryz.prog 121 [strs ks,.lW 122 [.ptr p4 0]] H (bn H (.v (.int .i64 (-1)))):=by
 have:=qJ ks 122 [.ptr p4 0] (λk=>!(iO k key)) hl H λz _ H' hs=>Ae z key p4 H' (hs _ _ hp)
 rw[hf] at this;exact this
theorem Mj{ks:List ByteArray}{key:ByteArray}(hl:ks.length<=1000000){i:Nat}(hf:ks.findIdx? (λk=>!(iO k key))=some i)(p4:Nat)(H:Hp)(hp:H p4=some (.box 9 [.v (.string key)])):
 F Tryz.prog 121 [strs ks,.lW 122 [.ptr p4 0]] H (bn H (.v (.int .i64 (i:Int)))):=by
 have:=qJ ks 122 [.ptr p4 0] (λk=>!(iO k key)) hl H λz _ H' hs=>Ae z key p4 H' (hs _ _ hp)
 rw[hf] at this;exact this
theorem vk(k n:Int)(t:ByteArray)(ks:List ByteArray)(vs:List V):V.k (.mk k n t ks vs)=k:=rfl
theorem vn(k n:Int)(t:ByteArray)(ks:List ByteArray)(vs:List V):V.n (.mk k n t ks vs)=n:=rfl
theorem vt(k n:Int)(t:ByteArray)(ks:List ByteArray)(vs:List V):V.t (.mk k n t ks vs)=t:=rfl
theorem Ag(k n:Int)(t:ByteArray)(ks:List ByteArray)(vs:List V):V.ks (.mk k n t ks vs)=ks:=rfl
theorem Ah(k n:Int)(t:ByteArray)(ks:List ByteArray)(vs:List V):V.vs (.mk k n t ks vs)=vs:=rfl
theorem xZ(l:List V)(i:Nat)(y:V):bE (l.set i y)=(bE l).set i (aN y):=by rw[dY,dY,List.map_set]
theorem Uz(x:V)(hx:Fits x)(key:ByteArray)(y:V)(hy:Fits y)(H:Hp)(i:Nat)(hk:x.k=5)(hp:pl x key=some i):
 F Tryz.prog 102 [.agg (aN x),.v (.string key),.agg (aN y)] H (Jh H (.mk x.k x.n x.t (cutV x).ks ((cutV x).vs.set i y))):=by
 obtain⟨k,n,t,ks,vs⟩:=x
 have hf:Fits (.mk k n t ks vs):=hx
 have hcf:=hf.cut
 have hkl:=hcf.Tm
 have hvl:=hcf.Uh
 have Qi:=rA (.mk k n t ks vs)
 have hev:=aS (cutV (.mk k n t ks vs)).vs
 have WC:((cutV (.mk k n t ks vs)).ks.map encS).length=(cutV (.mk k n t ks vs)).ks.length:=List.length_map ..
 simp only[V.k] at hk
 have hi:i<(cutV (.mk k n t ks vs)).vs.length:=by
  have h0:=Gw hp
  simp only[V.ks,V.vs] at h0
  simp only[cutV,V.ks,V.vs,List.length_take];omega
 refine aA (n:=49) (H0:=H) (M:=[]) Tryz.func102 (by kernel_rfl) U (by rw[Tryz.ntmps102];rfl) .nil<|?_
 refine Q.rg<|S.dd<|D.box U U U λp3=>S.dd<|D.box U U U λp4=>S.dd<|D.box U U (by exact aH _) λp5=>?_
 refine S.dd<|D.al z27 U U U λp6=>Q.nt<|S.sq<|Q.rg<|Q.fa eO U<|Q.lc 3 bC U U U<|Q.bi U U U<|Q.nt<|S.cF U (fE (by omega))<|UW.skip<|UQ.then<|Q.rg<|S.qu (Z.bg 3 ay U U U)<|Q.lc 2 fJ U U U<|S.qu (Z.call U U (λ_=>NU hf hp _))<|Q.as U<|Q.nt<|Q.rg<|S.qu (Z.bg 3 ay U U U)<|S.dd<|D.cn U U (λ_=>vP (.mk k n t ks vs) hf _)<|?_
 rintro _ _ ⟨pi,pj,rfl,rfl⟩
 refine S.s<|D.st 5 ay U U U U U U U U λ_=>Q.nt<|S.sq<|Q.rg<|Q.mv U<|Q.bi U U U<|Q.nt<|S.cF U (decide_eq_false (by omega))<|UW.skip<|UQ.then<|S.sq<|?_
 refine' UW.dC (by kernel_rfl) [0,1,0,0,8,31,63] [some 42,some 43,some 44,some 45,some 46,some 47,none] [some (42,_),some (43,_),some (44,_),some (45,_),some (46,_),some (47,_),none] [6] [1,3] U (by decide) (by decide) (I.free (by decide) U U ?Ji (I.held (by decide) U U ?Jj (I.free (by decide) U U ?Jk (I.held (by decide) U U ?Jl (I.free (by decide) U U ?Jm (I.free (by decide) U U ?Jn (I.skip I.nil))))))) ?UA
 case Ji=>(intro _;exact Z.fa bQ rfl)
 case Jj=>exact Z.dQ 5 dm rfl rfl rfl
 case Jk=>(intro _;exact Z.mv rfl)
 case Jl=>exact Z.bg 3 ay rfl rfl (ak _)
 case Jm=>(intro _;exact Z.call rfl rfl (λ_=>kG (l9 y hy _)))
 case Jn=>(intro _;exact Z.io bR rfl rfl (by omega) (by omega))
 refine CH.aV U U<|D.str 0 ay U U U (by omega) U U (by exact aH _) (ak _) (iV _) λ_=>?_
 refine CH.nil<|?_
 simp only[app,bV]
 refine UQ.then<|Q.rg<|S.qu (Z.bg 5 ay U U U)<|S.s<|D.st 2 ay U U U U U U U U λ_=>Q.nt<|UW.ret<|?_
 exact bD [_,_] (λhd=>di (k:=2) hd U U U bH bI) (.cons_cons _ (.cons_cons _ (List.nil_sublist _))) λhd=>⟨_,hd,rfl,_,_,_,_,by(rw[vk,vn,vt,Ag,Ah,List.length_set])<;>rfl,rfl,by rw[Ag,List.length_map];exact Nat.le_refl _,by rw[Ag];exact List.take_of_length_le (by rw[List.length_map];exact Nat.le_refl _),by rw[Ah,List.length_set,List.length_set,aS];exact Nat.le_refl _,by rw[List.take_of_length_le (by rw[Ah,List.length_set,List.length_set,aS];exact Nat.le_refl _),Nat.zero_add,Int.toNat_natCast,<-xZ]<;>rfl⟩
theorem UB(x:V)(hx:Fits x)(key:ByteArray)(y:V)(hy:Fits y)(H:Hp)(hk:x.k=5)(hp:pl x key=none)(NV:(cutV x).ks.findIdx? (λk=>!(iO k key))=none):
 F Tryz.prog 102 [.agg (aN x),.v (.string key),.agg (aN y)] H (Jh H (.mk x.k x.n x.t (eP (cutV x).ks (cutV x).ks.length key) (eP (cutV x).vs (cutV x).ks.length y))):=by
 obtain⟨k,n,t,ks,vs⟩:=x
 have hf:Fits (.mk k n t ks vs):=hx
 have hcf:=hf.cut
 have hkl:=hcf.Tm
 have hvl:=hcf.Uh
 have Qi:=rA (.mk k n t ks vs)
 have hev:=aS (cutV (.mk k n t ks vs)).vs
 have WC:((cutV (.mk k n t ks vs)).ks.map encS).length=(cutV (.mk k n t ks vs)).ks.length:=List.length_map ..
 simp only[V.k] at hk
 have hi:(cutV (.mk k n t ks vs)).ks.length<=(cutV (.mk k n t ks vs)).ks.length:=Nat.le_refl _
 have hi2:(cutV (.mk k n t ks vs)).ks.length<=(cutV (.mk k n t ks vs)).vs.length:=Nat.le_of_eq Qi
 have Xf:=(aS (eP (cutV (.mk k n t ks vs)).vs (cutV (.mk k n t ks vs)).ks.length zeroV)).trans (dR _ _ _ hi2)
 refine aA (n:=49) (H0:=H) (M:=[]) Tryz.func102 (by kernel_rfl) U (by rw[Tryz.ntmps102];rfl) .nil<|?_
 refine Q.rg<|S.dd<|D.box U U U λp3=>S.dd<|D.box U U U λp4=>S.dd<|D.box U U (by exact aH _) λp5=>?_
 refine S.dd<|D.al z27 U U U λp6=>Q.nt<|S.sq<|Q.rg<|Q.fa eO U<|Q.lc 3 bC U U U<|Q.bi U U U<|Q.nt<|S.cF U (fE (by omega))<|UW.skip<|UQ.then<|Q.rg<|S.qu (Z.bg 3 ay U U U)<|Q.lc 2 fJ U U U<|S.qu (Z.call U U (λ_=>Af hf hp _))<|Q.as U<|Q.nt<|Q.rg<|S.qu (Z.bg 3 ay U U U)<|S.dd<|D.cn U U (λ_=>vP (.mk k n t ks vs) hf _)<|?_
 rintro _ _ ⟨pi,pj,rfl,rfl⟩
 refine S.s<|D.st 5 ay U U U U U U U U λ_=>Q.nt<|S.sq<|Q.rg<|Q.mv U<|Q.bi U U U<|Q.nt<|S.cT U (decide_eq_true (by omega))<|Q.rg<|Q.fa dU U<|Q.lc 5 iE U U U<|S.qu (Z.mf U)<|S.qu (Z.YF [(p4,.box 9 [.v (.string key)])] (.cons _ (.cons _ (.cons _ (.cons _ (.cons_cons _ (List.nil_sublist _)))))) U U U (.own (k:=1) U (by omega) (oC _ _ WC) (.keep .nil)) (λhd=>Cy hkl NV p4 _ (hd.at_ (k:=0) U)))<|Q.as U<|Q.nt<|S.sq<|Q.rg<|Q.mv U<|Q.bi U U U<|Q.nt<|S.cT U (decide_eq_true (by omega))<|S.rg<|Q.fa dU U<|Q.lc 5 iE U U U<|S.qu (Z.Co bS U)<|Q.as U<|Q.nt<|Q.rg<|Q.fa dU U<|Q.lc 5 iE U U U<|Q.mv U<|Q.lc 4 fJ U U U<|S.dd<|D.lit iM U U (dx U) λp32=>S.dd<|D.co (.cons 2 U (.cons 0 U .nil)) U U (λG hD=>um (cutV (.mk k n t ks vs)).ks key (cutV (.mk k n t ks vs)).ks.length (by omega) hkl _ _ G hD)<|?_
 rintro _ _ ⟨pk,rfl,rfl⟩
 refine Q.fa dU U<|S.s<|D.st 5 iE U U U U U U U U λ_=>Q.nt<|S.rg<|Q.fa bQ U<|Q.lc 5 dm U U U<|Q.mv U<|S.qu (Z.bd [] dh U U U U U U)<|S.dd<|D.lit iw U U (dx U) λp39=>S.dd<|D.co (.cons 2 U (.cons 0 U .nil)) U U (λG hD=>uo (cutV (.mk k n t ks vs)).vs zeroV (cutV (.mk k n t ks vs)).ks.length (by omega) hvl _ _ G hD)<|?_
 rintro _ _ ⟨pv,rfl,rfl⟩
 refine Q.fa bQ U<|S.s<|D.st 5 dm U U U U U U U U λ_=>Q.nt<|S.sq<|?_
 refine' UW.dC (by kernel_rfl) [0,1,0,0,8,31,63] [some 42,some 43,some 44,some 45,some 46,some 47,none] [some (42,_),some (43,_),some (44,_),some (45,_),some (46,_),some (47,_),none] [6] [1,3] U (by decide) (by decide) (I.free (by decide) U U ?Ji (I.held (by decide) U U ?Jj (I.free (by decide) U U ?Jk (I.held (by decide) U U ?Jl (I.free (by decide) U U ?Jm (I.free (by decide) U U ?Jn (I.skip I.nil))))))) ?UA
 case Ji=>(intro _;exact Z.fa bQ rfl)
 case Jj=>exact Z.dQ 5 dm rfl rfl rfl
 case Jk=>(intro _;exact Z.mv rfl)
 case Jl=>exact Z.bg 3 ay rfl rfl (ak _)
 case Jm=>(intro _;exact Z.call rfl rfl (λ_=>kG (l9 y hy _)))
 case Jn=>(intro _;exact Z.io bR rfl rfl (by omega) (by omega))
 refine CH.aV U U<|D.str 0 ay U U U (by omega) U U (by exact aH _) (ak _) (iV _) λ_=>?_
 refine CH.nil<|?_
 simp only[app,bV]
 refine UQ.then<|Q.rg<|S.qu (Z.bg 5 ay U U U)<|S.s<|D.st 2 ay U U U U U U U U λ_=>Q.nt<|UW.ret<|?_
 exact bD [_,_] (λhd=>di (k:=2) hd U U U bH bI) (.cons_cons _ (.cons_cons _ (List.nil_sublist _))) λhd=>⟨_,hd,rfl,_,_,_,_,by(rw[vk,vn,vt,Ag,Ah,dR _ _ _ hi,dR _ _ _ hi2])<;>rfl,rfl,by rw[Ag,List.length_map];exact Nat.le_refl _,by rw[Ag];exact List.take_of_length_le (by rw[List.length_map];exact Nat.le_refl _),by rw[Ah,List.length_set,aS,dR _ _ _ hi2,dR _ _ _ hi2];exact Nat.le_refl _,by rw[List.take_of_length_le (by rw[Ah,List.length_set,aS,dR _ _ _ hi2,dR _ _ _ hi2];exact Nat.le_refl _),Nat.zero_add,Int.toNat_natCast,<-xZ,Cx _ _ _ _ hi2]<;>rfl⟩
theorem UC(x:V)(hx:Fits x)(key:ByteArray)(y:V)(hy:Fits y)(H:Hp)(i:Nat)(hk:x.k=5)(hp:pl x key=none)(NV:(cutV x).ks.findIdx? (λk=>!(iO k key))=some i):
 F Tryz.prog 102 [.agg (aN x),.v (.string key),.agg (aN y)] H (Jh H (.mk x.k x.n x.t (eP (cutV x).ks i key) (eP (cutV x).vs i y))):=by
 obtain⟨k,n,t,ks,vs⟩:=x
 have hf:Fits (.mk k n t ks vs):=hx
 have hcf:=hf.cut
 have hkl:=hcf.Tm
 have hvl:=hcf.Uh
 have Qi:=rA (.mk k n t ks vs)
 have hev:=aS (cutV (.mk k n t ks vs)).vs
 have WC:((cutV (.mk k n t ks vs)).ks.map encS).length=(cutV (.mk k n t ks vs)).ks.length:=List.length_map ..
 simp only[V.k] at hk
 have hi:i<=(cutV (.mk k n t ks vs)).ks.length:=Nat.le_of_lt (List.findIdx?_eq_some_iff_getElem.1 NV).1
 have hi2:=Qi▸hi
 have Xf:=(aS (eP (cutV (.mk k n t ks vs)).vs i zeroV)).trans (dR _ _ _ hi2)
 refine aA (n:=49) (H0:=H) (M:=[]) Tryz.func102 (by kernel_rfl) U (by rw[Tryz.ntmps102];rfl) .nil<|?_
 refine Q.rg<|S.dd<|D.box U U U λp3=>S.dd<|D.box U U U λp4=>S.dd<|D.box U U (by exact aH _) λp5=>?_
 refine S.dd<|D.al z27 U U U λp6=>Q.nt<|S.sq<|Q.rg<|Q.fa eO U<|Q.lc 3 bC U U U<|Q.bi U U U<|Q.nt<|S.cF U (fE (by omega))<|UW.skip<|UQ.then<|Q.rg<|S.qu (Z.bg 3 ay U U U)<|Q.lc 2 fJ U U U<|S.qu (Z.call U U (λ_=>Af hf hp _))<|Q.as U<|Q.nt<|Q.rg<|S.qu (Z.bg 3 ay U U U)<|S.dd<|D.cn U U (λ_=>vP (.mk k n t ks vs) hf _)<|?_
 rintro _ _ ⟨pi,pj,rfl,rfl⟩
 refine S.s<|D.st 5 ay U U U U U U U U λ_=>Q.nt<|S.sq<|Q.rg<|Q.mv U<|Q.bi U U U<|Q.nt<|S.cT U (decide_eq_true (by omega))<|Q.rg<|Q.fa dU U<|Q.lc 5 iE U U U<|S.qu (Z.mf U)<|S.qu (Z.YF [(p4,.box 9 [.v (.string key)])] (.cons _ (.cons _ (.cons _ (.cons _ (.cons_cons _ (List.nil_sublist _)))))) U U U (.own (k:=1) U (by omega) (oC _ _ WC) (.keep .nil)) (λhd=>Mj hkl NV p4 _ (hd.at_ (k:=0) U)))<|Q.as U<|Q.nt<|S.sq<|Q.rg<|Q.mv U<|Q.bi U U U<|Q.nt<|S.cF U (decide_eq_false (by omega))<|UW.skip<|UQ.then<|Q.rg<|Q.fa dU U<|Q.lc 5 iE U U U<|Q.mv U<|Q.lc 4 fJ U U U<|S.dd<|D.lit iM U U (dx U) λp32=>S.dd<|D.co (.cons 2 U (.cons 0 U .nil)) U U (λG hD=>um (cutV (.mk k n t ks vs)).ks key i (by omega) hkl _ _ G hD)<|?_
 rintro _ _ ⟨pk,rfl,rfl⟩
 refine Q.fa dU U<|S.s<|D.st 5 iE U U U U U U U U λ_=>Q.nt<|S.rg<|Q.fa bQ U<|Q.lc 5 dm U U U<|Q.mv U<|S.qu (Z.bd [] dh U U U U U U)<|S.dd<|D.lit iw U U (dx U) λp39=>S.dd<|D.co (.cons 2 U (.cons 0 U .nil)) U U (λG hD=>uo (cutV (.mk k n t ks vs)).vs zeroV i (by omega) hvl _ _ G hD)<|?_
 rintro _ _ ⟨pv,rfl,rfl⟩
 refine Q.fa bQ U<|S.s<|D.st 5 dm U U U U U U U U λ_=>Q.nt<|S.sq<|?_
 refine' UW.dC (by kernel_rfl) [0,1,0,0,8,31,63] [some 42,some 43,some 44,some 45,some 46,some 47,none] [some (42,_),some (43,_),some (44,_),some (45,_),some (46,_),some (47,_),none] [6] [1,3] U (by decide) (by decide) (I.free (by decide) U U ?Ji (I.held (by decide) U U ?Jj (I.free (by decide) U U ?Jk (I.held (by decide) U U ?Jl (I.free (by decide) U U ?Jm (I.free (by decide) U U ?Jn (I.skip I.nil))))))) ?UA
 case Ji=>(intro _;exact Z.fa bQ rfl)
 case Jj=>exact Z.dQ 5 dm rfl rfl rfl
 case Jk=>(intro _;exact Z.mv rfl)
 case Jl=>exact Z.bg 3 ay rfl rfl (ak _)
 case Jm=>(intro _;exact Z.call rfl rfl (λ_=>kG (l9 y hy _)))
 case Jn=>(intro _;exact Z.io bR rfl rfl (by omega) (by omega))
 refine CH.aV U U<|D.str 0 ay U U U (by omega) U U (by exact aH _) (ak _) (iV _) λ_=>?_
 refine CH.nil<|?_
 simp only[app,bV]
 refine UQ.then<|Q.rg<|S.qu (Z.bg 5 ay U U U)<|S.s<|D.st 2 ay U U U U U U U U λ_=>Q.nt<|UW.ret<|?_
 exact bD [_,_] (λhd=>di (k:=2) hd U U U bH bI) (.cons_cons _ (.cons_cons _ (List.nil_sublist _))) λhd=>⟨_,hd,rfl,_,_,_,_,by(rw[vk,vn,vt,Ag,Ah,dR _ _ _ hi,dR _ _ _ hi2])<;>rfl,rfl,by rw[Ag,List.length_map];exact Nat.le_refl _,by rw[Ag];exact List.take_of_length_le (by rw[List.length_map];exact Nat.le_refl _),by rw[Ah,List.length_set,aS,dR _ _ _ hi2,dR _ _ _ hi2];exact Nat.le_refl _,by rw[List.take_of_length_le (by rw[Ah,List.length_set,aS,dR _ _ _ hi2,dR _ _ _ hi2];exact Nat.le_refl _),Nat.zero_add,Int.toNat_natCast,<-xZ,Cx _ _ _ _ hi2]<;>rfl⟩
theorem UD(x:V)(hx:Fits x)(key:ByteArray)(y:V)(hy:Fits y)(H:Hp)(hk:¬x.k=5):
 F Tryz.prog 102 [.agg (aN x),.v (.string key),.agg (aN y)] H (Jh H (.mk 5 0 ⟨#[]⟩ [key] [y])):=by
 obtain⟨k,n,t,ks,vs⟩:=x
 have hf:Fits (.mk 5 0 ⟨#[]⟩ [] []):=.mk _ _ _ _ _ (by decide) (by decide) (by simp)
 have hcf:=hf.cut
 have hkl:=hcf.Tm
 have hvl:=hcf.Uh
 have Qi:=rA (.mk 5 0 ⟨#[]⟩ [] [])
 have hev:=aS (cutV (.mk 5 0 ⟨#[]⟩ [] [])).vs
 have WC:((cutV (.mk 5 0 ⟨#[]⟩ [] [])).ks.map encS).length=(cutV (.mk 5 0 ⟨#[]⟩ [] [])).ks.length:=List.length_map ..
 simp only[V.k] at hk
 have hp:pl (.mk 5 0 ⟨#[]⟩ [] []) key=none:=rfl
 have NV:(cutV (.mk 5 0 ⟨#[]⟩ [] [])).ks.findIdx? (λk=>!(iO k key))=none:=rfl
 have hi:(cutV (.mk 5 0 ⟨#[]⟩ [] [])).ks.length<=(cutV (.mk 5 0 ⟨#[]⟩ [] [])).ks.length:=Nat.le_refl _
 have hi2:(cutV (.mk 5 0 ⟨#[]⟩ [] [])).ks.length<=(cutV (.mk 5 0 ⟨#[]⟩ [] [])).vs.length:=Nat.le_of_eq Qi
 have Xf:=(aS (eP (cutV (.mk 5 0 ⟨#[]⟩ [] [])).vs (cutV (.mk 5 0 ⟨#[]⟩ [] [])).ks.length zeroV)).trans (dR _ _ _ hi2)
 refine aA (n:=49) (H0:=H) (M:=[]) Tryz.func102 (by kernel_rfl) U (by rw[Tryz.ntmps102];rfl) .nil<|?_
 refine Q.rg<|S.dd<|D.box U U U λp3=>S.dd<|D.box U U U λp4=>S.dd<|D.box U U (by exact aH _) λp5=>?_
 refine S.dd<|D.al z27 U U U λp6=>Q.nt<|S.sq<|Q.rg<|Q.fa eO U<|Q.lc 3 bC U U U<|Q.bi U U U<|Q.nt<|S.cT U (jM (by omega))<|S.rg<|S.qu (Z.bd [0] dh U U U U U U)<|S.s<|D.st 3 ay U U U U U U U U λ_=>Q.nt<|Q.rg<|S.qu (Z.bg 3 ay U U U)<|Q.lc 2 fJ U U U<|S.qu (Z.call U U (λ_=>Af hf hp _))<|Q.as U<|Q.nt<|Q.rg<|S.qu (Z.bg 3 ay U U U)<|S.dd<|D.cn U U (λ_=>vP (.mk 5 0 ⟨#[]⟩ [] []) hf _)<|?_
 rintro _ _ ⟨pi,pj,rfl,rfl⟩
 refine S.s<|D.st 5 ay U U U U U U U U λ_=>Q.nt<|S.sq<|Q.rg<|Q.mv U<|Q.bi U U U<|Q.nt<|S.cT U (decide_eq_true (by omega))<|Q.rg<|Q.fa dU U<|Q.lc 5 iE U U U<|S.qu (Z.mf U)<|S.qu (Z.YF [(p4,.box 9 [.v (.string key)])] (.cons _ (.cons _ (.cons _ (.cons _ (.cons_cons _ (List.nil_sublist _)))))) U U U (.own (k:=1) U (by omega) (oC _ _ WC) (.keep .nil)) (λhd=>Cy hkl NV p4 _ (hd.at_ (k:=0) U)))<|Q.as U<|Q.nt<|S.sq<|Q.rg<|Q.mv U<|Q.bi U U U<|Q.nt<|S.cT U (decide_eq_true (by omega))<|S.rg<|Q.fa dU U<|Q.lc 5 iE U U U<|S.qu (Z.Co bS U)<|Q.as U<|Q.nt<|Q.rg<|Q.fa dU U<|Q.lc 5 iE U U U<|Q.mv U<|Q.lc 4 fJ U U U<|S.dd<|D.lit iM U U (dx U) λp32=>S.dd<|D.co (.cons 2 U (.cons 0 U .nil)) U U (λG hD=>um (cutV (.mk 5 0 ⟨#[]⟩ [] [])).ks key (cutV (.mk 5 0 ⟨#[]⟩ [] [])).ks.length (by omega) hkl _ _ G hD)<|?_
 rintro _ _ ⟨pk,rfl,rfl⟩
 refine Q.fa dU U<|S.s<|D.st 5 iE U U U U U U U U λ_=>Q.nt<|S.rg<|Q.fa bQ U<|Q.lc 5 dm U U U<|Q.mv U<|S.qu (Z.bd [] dh U U U U U U)<|S.dd<|D.lit iw U U (dx U) λp39=>S.dd<|D.co (.cons 2 U (.cons 0 U .nil)) U U (λG hD=>uo (cutV (.mk 5 0 ⟨#[]⟩ [] [])).vs zeroV (cutV (.mk 5 0 ⟨#[]⟩ [] [])).ks.length (by omega) hvl _ _ G hD)<|?_
 rintro _ _ ⟨pv,rfl,rfl⟩
 refine Q.fa bQ U<|S.s<|D.st 5 dm U U U U U U U U λ_=>Q.nt<|S.sq<|?_
 refine' UW.dC (by kernel_rfl) [0,1,0,0,8,31,63] [some 42,some 43,some 44,some 45,some 46,some 47,none] [some (42,_),some (43,_),some (44,_),some (45,_),some (46,_),some (47,_),none] [6] [1,3] U (by decide) (by decide) (I.free (by decide) U U ?Ji (I.held (by decide) U U ?Jj (I.free (by decide) U U ?Jk (I.held (by decide) U U ?Jl (I.free (by decide) U U ?Jm (I.free (by decide) U U ?Jn (I.skip I.nil))))))) ?UA
 case Ji=>(intro _;exact Z.fa bQ rfl)
 case Jj=>exact Z.dQ 5 dm rfl rfl rfl
 case Jk=>(intro _;exact Z.mv rfl)
 case Jl=>exact Z.bg 3 ay rfl rfl (ak _)
 case Jm=>(intro _;exact Z.call rfl rfl (λ_=>kG (l9 y hy _)))
 case Jn=>(intro _;exact Z.io bR rfl rfl (by omega) (by omega))
 refine CH.aV U U<|D.str 0 ay U U U (by omega) U U (by exact aH _) (ak _) (iV _) λ_=>?_
 refine CH.nil<|?_
 simp only[app,bV]
 refine UQ.then<|Q.rg<|S.qu (Z.bg 5 ay U U U)<|S.s<|D.st 2 ay U U U U U U U U λ_=>Q.nt<|UW.ret<|?_
 exact bD [_,_] (λhd=>di (k:=2) hd U U U bH bI) (.cons_cons _ (.cons_cons _ (List.nil_sublist _))) λhd=>⟨_,hd,rfl,_,_,_,_,rfl,rfl,Nat.le_refl _,rfl,Nat.le_refl _,rfl⟩
theorem NW(x:V)(hx:Fits x)(key:ByteArray)(y:V)(hy:Fits y)(H:Hp):
 F Tryz.prog 102 [.agg (aN x),.v (.string key),.agg (aN y)] H (Jh H (dE x key y)):=by
 by_cases hk:x.k=5
 ·have e1:dS x=x:=by unfold dS;rw[if_pos hk]
  unfold dE
  rw[e1]
  cases hp:pl x key with
  |some i=>exact Uz x hx key y hy H i hk hp
  |none=>
   cases NV:(cutV x).ks.findIdx? (λk=>!(iO k key)) with
   |none=>
    have:=UB x hx key y hy H hk hp NV
    have e2:iW (cutV x).ks key=(cutV x).ks.length:=by unfold iW uk;rw[NV];rfl
    rw[<-e2] at this;exact this
   |some i=>
    have:=UC x hx key y hy H i hk hp NV
    have e2:iW (cutV x).ks key=i:=by
     unfold iW uk;rw[NV]
     show(if (i:Int)<0 then _ else(i:Int).toNat)=i
     rw[if_neg (by omega)];rfl
    rw[<-e2] at this;exact this
 ·have e1:dS x=.mk 5 0 ⟨#[]⟩ [] []:=by unfold dS;rw[if_neg hk]
  unfold dE
  rw[e1]
  exact UD x hx key y hy H hk
theorem Mk(x:V)(hx:Fits x)(key:ByteArray)(y:V)(hy:Fits y)(H:Hp):
 F Tryz.prog 102 [.agg (aN x),.v (.string key),.agg (aN y)] H (bn H (.agg (aN (dE x key y)))):=Cu (NW x hx key y hy H)
def vS(x:V):Bool:=if x.k=1 then(x.n==0||x.n==1) else if x.k=2 then(decide (-9007199254740991<=x.n)&&decide (x.n<=9007199254740991)) else(x.n==0)
def qK(ks:List ByteArray)(k:Nat):Bool:=decide (nu (ks.getD k ⟨#[]⟩)<0)&&(decide (k=0)||decide (Ej (ks.getD (k-1) ⟨#[]⟩) (ks.getD k ⟨#[]⟩)<0))
def pX(x:V):Bool:=if x.k=5 then(List.range x.ks.length).all (qK x.ks)&&((x.ks.length:Int)==(x.vs.length:Int)) else((x.ks.length:Int)==0)
theorem GH(l:List ByteArray)(k:Nat)(h:k<l.length)(h0:0<k):(l.map encS)[((k:Int)-1).toNat]? =some (encS (l.getD (k-1) ⟨#[]⟩)):=by
 have e:((k:Int)-1).toNat=k-1:=by omega
 rw[e,gT l (k-1) (by omega),getD_at (by omega)]
mutual
def gN:V->Bool
 | .mk k n t ks vs=>(decide (0<=k)&&decide (k<=5)&&vS (.mk k n t ks vs)&&pX (.mk k n t ks vs))&&!(!(t.toList==(⟨#[]⟩:ByteArray).toList)&&(!(k==3)||decide (0<=nu t)))&&!(decide (k<4)&&decide ((0:Int)<vs.length))&&lT vs
def lT:List V->Bool
 |[]=>true
 |x::r=>gN x&&lT r
end
theorem uq:∀l:List V,lT l=!l.any (λx=>!gN x)
 |[]=>rfl
 |x::r=>by rw[lT,uq r];simp
def qO(n:Int):V:=.mk 2 n ⟨#[]⟩ [] []
end Go.Proofs.YtbooeongacgnbaaGreatDoor
end
