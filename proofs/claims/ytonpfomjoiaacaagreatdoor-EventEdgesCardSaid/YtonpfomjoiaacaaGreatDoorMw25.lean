/- A part of the proof. -/
import Derived.Test.YtonpfomjoiaacaaGreatDoorMw10
import Derived.Test.YtonpfomjoiaacaaGreatDoorMw20
import Derived.Test.YtonpfomjoiaacaaGreatDoorMw24
import Derived.Test.YtonpfomjoiaacaaGreatDoorMw23
set_option maxRecDepth 100000
set_option maxHeartbeats 4000000
set_option linter.unusedSectionVars false
set_option linter.unusedVariables false
set_option linter.unusedSimpArgs false
section
namespace Go.Proofs.YtonpfomjoiaacaaGreatDoor
open Go Go.iG Go.RowKit
theorem NC(rows:List (List AV))(c:Int)(hc:1<=c)(H:Hp):au Tryz.prog 175 [.sl rows,.v (.int .i64 c)] H (λu H'=>∃i j,u=.iF 217 [.ptr i 0,.ptr j 0]/\aP H [(j,.box 3 [.v (.int .i64 c)]),(i,.box 22 [.sl rows])]/\H'=aD H [(j,.box 3 [.v (.int .i64 c)]),(i,.box 22 [.sl rows])]):=by
 refine aF (n:=9) (H0:=H) (I:=[]) Tryz.func175 (by kernel_rfl) U (by rw[Tryz.ntmps175];rfl) .nil<|?_
 refine Q.rg<|S.dd<|D.box U U U λp2=>S.dd<|D.box U U U λp3=>Q.as U<|Q.nt<|S.sq<|Q.rg<|Q.lc 0 fB U U U<|Q.bi U U U<|Q.nt<|S.cF U (decide_eq_false (by omega))<|UW.skip<|UQ.then<|Q.rg<|S.qu (Z.mf U)<|Q.as U<|Q.nt<|UW.ret<|?_
 exact bR [_,_] (λ_=>ak U U) (.refl _) λhd=>⟨_,_,rfl,hd,rfl⟩
theorem Gv(rows:List (List AV))(c:Int)(hc:1<=c)(H:Hp):au Tryz.prog 175 [.sl rows,.v (.int .i64 c)] H (bB H (.iF 217 [.rp [.sl rows],.rp [.v (.int .i64 c)]])):=by
 refine(NC rows c hc H).post<|?_
 rintro u H1 ⟨i,j,rfl,hd,rfl⟩
 refine⟨_,H,o9 hd,?_,rfl,rfl⟩
 have hi:aD H [(j,.box 3 [.v (.int .i64 c)]),(i,.box 22 [.sl rows])] i=some (.box 22 [.sl rows]):=hd.at_ (k:=1) U
 have hj:aD H [(j,.box 3 [.v (.int .i64 c)]),(i,.box 22 [.sl rows])] j=some (.box 3 [.v (.int .i64 c)]):=hd.at_ (k:=0) U
 refine bO.iF U λk u u' h1 h2=>?_
 match k with
 |0=>simp at h1 h2;subst h1 h2;exact bO.rpb (o9 hd) hi (hd.base (k:=1) U)
 |1=>simp at h1 h2;subst h1 h2;exact bO.rpb (o9 hd) hj (hd.base (k:=0) U)
 |k+2=>simp at h1
theorem TN{ok:Nat->Prop}{ρ:ik}{w:World}{rows:List (List AV)}{a:Addr}{len cap:Nat}(hr:eF ok ρ w (.sl rows) (.slice (some a) len cap))(hs:∀cs∈rows,cs.length=1)(c x:Nat):eF ok ρ w (.sl ((rows.drop x).take c)) (w9 a len c x):=by
 cases hr with
 |sl _ _ _ sz vals hcap hmax hok hsz hc hr2=>
  have hl:min c (rows.length-x)=((rows.drop x).take c).length:=by simp
  unfold w9
  rw[hl]
  refine .sl _ _ _ 1 (λi j=>vals (x+i) j) (by omega) (by rw[<-hl];omega) (λhn=>by rw[add_block];exact hok (λhe=>hn (by rw[he];simp))) (λcs hcs=>hs cs (List.mem_of_mem_drop (List.mem_of_mem_take hcs))) (λi cs j hi hj=>?_) (λi cs j u hi hj=>?_)
  ·rw[List.getElem?_take] at hi
   split at hi
   ·rw[List.getElem?_drop] at hi
    have e1:sz=1:=by rw[<-hs cs (List.mem_of_getElem? hi)];exact(hsz cs (List.mem_of_getElem? hi)).symm
    have:=hc _ cs j hi hj
    rw[e1] at this
    rw[add_add,show x+(i*1+j)=(x+i)*1+j from by omega]
    exact this
   ·cases hi
  ·rw[List.getElem?_take] at hi
   split at hi
   ·rw[List.getElem?_drop] at hi
    exact hr2 _ cs j u hi hj
   ·cases hi
theorem Gw{w:World}{a:Addr}{v:Value}(h:w.cell? (a.add 0)=some v):a=⟨a.block,a.off,none⟩:=by
 have e:a.add 0=a:=by unfold Addr.add;simp
 rw[e] at h
 obtain⟨b,o,s⟩:=a
 cases s with
 |none=>rfl
 |some s=>unfold World.cell? at h;simp at h;split at h<;>simp_all
theorem VP{w:World}{b1 b2:Nat}(h1:b1<w.heap.size)(h2:b2<w.heap.size)(W:World)(l:Nat)(o':Obj)(hl:w.heap.size<=l):pq b1 b2 W (W.putObj l o'):=
 ⟨World.putObj_heap_other (by omega),World.putObj_heap_other (by omega)⟩
theorem Gx(rows:List (List AV))(hs:∀cs∈rows,cs.length=1)(hl:rows.length<=1000000000000)(c:Nat)(hc0:0<c)(hc1:c<=1000){ρ:ik}{H:Hp}{w:World}{lb:List Value}(hh:eu ρ H w)(hlb:MH (bF ρ H) ρ w [.rp [.sl rows],.rp [.v (.int .i64 (c:Int))]] lb):
 ∃encs Kp,Iter Tryz.prog (α:=Nat) 217 lb.toArray (λxs=>∃k,xs=aK c k/\rows.length<=k*c/\(k=0\/(k-1)*c<rows.length)) (λxs=>∃k,xs=aK c k) rows.length ρ H w (λx=> .sl ((rows.drop x).take c)) encs Kp:=by
 obtain⟨hl0,hr⟩:=hlb
 match lb,hl0,hr with
 |[v1,v2],hl0,hr=>
  have r1:=hr 0 _ _ U U
  have r2:=hr 1 _ _ U U
  clear hr hl0
  cases r1 with
  |rp _ a1 UN hok1 hc1' hr1=>
   cases r2 with
   |rp _ a2 vals2 hok2 hc2' hr2=>
    have c1:=(hc1' 0 (by simp)).1
    have r3:=hr1 0 _ U
    have c2:=(hc2' 0 (by simp)).1
    rw[aV (hr2 0 _ U)] at c2
    obtain⟨k1,l1⟩:=hok1 (by simp)
    obtain⟨k2,l2⟩:=hok2 (by simp)
    have p1:=Gw c1
    have p2:=Gw c2
    rw[show a1.add 0=a1 from by unfold Addr.add;simp] at c1
    rw[show a2.add 0=a2 from by unfold Addr.add;simp] at c2
    generalize UN 0=y at c1 r3
    obtain⟨b1,o1,s1⟩:=a1
    obtain⟨b2,o2,s2⟩:=a2
    cases p1
    cases p2
    have keep:∀Xp H1 W1 UK H2 W2,Ext ρ H w Xp H1 W1->Ext Xp H1 W1 UK H2 W2->pq b1 b2 W1 W2:=λXp H1 W1 UK H2 W2 e1 e2=>
     ⟨e2.block b1 (Nat.lt_of_lt_of_le l1 e1.size) (λho=>(e1.own b1 ho).elim k1 (λh=>absurd h (Nat.not_le.2 l1))),e2.block b2 (Nat.lt_of_lt_of_le l2 e1.size) (λho=>(e1.own b2 ho).elim k2 (λh=>absurd h (Nat.not_le.2 l2)))⟩
    have trans:∀{A B C:World},pq b1 b2 A B->pq b1 b2 B C->pq b1 b2 A C:=λh1 h2=>⟨h2.1.trans h1.1,h2.2.trans h1.2⟩
    cases r3 with
    |nil=>
     refine⟨λ_=> .slice none 0 0,pq b1 b2,⟨λl J Jx W hW hJ hJx hY h0=>?_,trans,λW l o o' h _ _ _=>VP l1 l2 W l o' h,λx=>by simpa using eF.nil,keep⟩⟩
     refine(TM (Mw none) 2 trivial U l b1 o1 b2 o2 none 0 J W ((hW.cell (p:=⟨b1,o1,none⟩) l1).trans c1) h0).mono<|?_
     rintro e W' ⟨he,hj⟩
     exact⟨he,.inl ⟨[],⟨0,rfl,by simp,.inl U⟩,hj⟩⟩
    |sl _ a cap sz vals hcap hmax hok hsz hcc hrr=>
     refine⟨w9 a rows.length c,pq b1 b2,⟨λl J Jx W hW hJ hJx hY h0=>?_,trans,λW l o o' h _ _ _=>VP l1 l2 W l o' h,λx=>TN (.sl rows a cap sz vals hcap hmax hok hsz hcc hrr) hs c x,keep⟩⟩
     refine(TL (Mw none) 2 trivial U (by decide) l b1 o1 b2 o2 a rows.length cap c hc0 hc1 hl hcap J Jx (λpre W h=>hJ pre W W.drew none h ⟨rfl,rfl,rfl,Nat.le_refl _,λ_ _ _=>rfl⟩ (λr e=>by cases e)) hY W ((hW.cell (p:=⟨b1,o1,none⟩) l1).trans c1) ((hW.cell (p:=⟨b2,o2,none⟩) l2).trans c2) h0).mono<|?_
     rintro e W' ⟨he,⟨k,g1,g2,g3⟩|⟨k,g1⟩⟩
     ·exact⟨he,.inl ⟨_,⟨k,rfl,g1,g2⟩,g3⟩⟩
     ·exact⟨he,.inr ⟨_,⟨k,rfl⟩,g1⟩⟩
end Go.Proofs.YtonpfomjoiaacaaGreatDoor
end
section
namespace Go.iG
open Go Go.RowKit
section
def Cx(H:Hp):Prop:=∀id ob,H id=some ob->nY ob=true
theorem Cx.ext{H0:Hp}{os:List (Nat×Ob)}(h:Cx H0)(ho:(os.all λp=>nY p.2)=true):Cx (aD H0 os):=λid ob hh=>by
 rcases Ck hh with hh|hh
 ·exact List.all_eq_true.1 ho _ hh
 ·exact h id ob hh
theorem Cx.raw{G:Hp}(h:RawH G):Cx G:=λid ob hh=>by
 obtain⟨g,x,rfl⟩:=h _ _ hh
 rfl
variable [Rd]
section
variable {P:Program} {n:Nat} {ops:Array Oper} {H0:Hp} {l:List (Nat×AV)} {I oL Ii:List (Nat×Ob)} {dst:Option Nat} {ty:TypeId} {ps:String} {af:Array Edge} {cc:Operand} {args:Array Operand} {at_:Array TypeId} {f:FuncId} {us df:List AV} {R:AV->List (Nat×Ob)->Prop} {K:AV->List (Nat×Ob)->Prop}
theorem D.coe(hpk:EZ I oL Ii)(hc:aW l cc=some (.iF f df))(ha:iM l args.toList=some us)(h:aP (aD H0 Ii) oL->au P f (us++df) (aD (aD H0 Ii) oL) (λu H'=>∃news,aP (aD H0 Ii) news/\H'=aD (aD H0 Ii) news/\R u news))(hk:∀u news,R u news->K u (news++Ii)):
 DS P n ops H0 ⟨dst,.call {callee:=.value cc,args:=args,argTypes:=at_},ty,ps,af,none⟩ l I K:=λhd=>by
 obtain⟨a,b,c⟩:=hpk.split hd
 refine Does.call U U (aG hc) ?_
 rw[j4 ha,c]
 exact(h b).mono λu H' ⟨news,h1,h2,h3⟩=>⟨news++Ii,by rw[h2,sZ],aP.app a h1,hk u news h3⟩
theorem D.cne(hc:aW l cc=some (.iF f df))(ha:iM l args.toList=some us)(h:aP H0 I->au P f (us++df) (aD H0 I) (λu H'=>∃news,aP (aD H0 I) news/\H'=aD (aD H0 I) news/\R u news))(hk:∀u news,R u news->K u (news++I)):
 DS P n ops H0 ⟨dst,.call {callee:=.value cc,args:=args,argTypes:=at_},ty,ps,af,none⟩ l I K:=λhd=>by
 refine Does.call U U (aG hc) ?_
 rw[j4 ha]
 exact(h hd).mono λu H' ⟨news,h1,h2,h3⟩=>⟨news++I,by rw[h2,sZ],aP.app hd h1,hk u news h3⟩
theorem au.lowly{us:List AV}{r:AV}{H:Hp}(hR:RawH (low H))(h:au P f us (low H) (bB (low H) r))(hr:EW r=true):au P f us H (bB H r):=
 au.borrow (RS H) (λi ob hi=>by obtain⟨g,x,rfl⟩:=hR i ob hi;rfl) rfl (λj u u' h1 h2=>by rw[h1] at h2;cases h2;exact bO.drop (RS H) _) h hr
end
section
variable {β:Type} {H0:Hp} {O Ox:β->List (Nat×Ob)} {J Jx:β->Prop} {ix:Nat} {l:List (Nat×AV)} {I:List (Nat×Ob)}
theorem S.rdn(b:β)(hJ:J b)(ho:(O b).Sublist I):UQ (PX H0 O Ox J Jx ix) H0 .normal l I:=λhd=>⟨b,hJ,hd.sub ho,gP hd (hd.sub ho) (λ_ hp=>ho.subset hp)⟩
theorem S.rdx(b:β)(hJ:Jx b)(ho:(Ox b).Sublist I):UQ (PX H0 O Ox J Jx ix) H0 (.exit ix) l I:=λhd=>⟨rfl,b,hJ,hd.sub ho,gP hd (hd.sub ho) (λ_ hp=>ho.subset hp)⟩
end
end
end Go.iG
end
section
namespace Go.Proofs.YtonpfomjoiaacaaGreatDoor
open Go Go.iG Go.RowKit
def qH(all:List Int)(x:Nat):List Int:=(all.drop x).take 64
def j6(h:W8)(all:List Int)(xs:List Nat):W8:=xs.foldl (λh x=>vU h (qH all x)) h
theorem Gy(h:W8)(all:List Int)(xs:List Nat)(x:Nat):j6 h all (xs++[x])=vU (j6 h all xs) (qH all x):=by unfold j6;rw[List.foldl_append];rfl
theorem ND(all:List Int)(x:Nat):(qH all x).length=min 64 (all.length-x):=by unfold qH;rw[List.length_take,List.length_drop]
theorem R3{all:List Int}(h:fo all)(x:Nat):fo (qH all x):=λc hc=>h c (List.mem_of_mem_drop (List.mem_of_mem_take hc))
theorem fo.app{a b:List Int}(ha:fo a)(hb:fo b):fo (a++b):=λc hc=>(List.mem_append.1 hc).elim (ha c) (hb c)
theorem fo.drop{a:List Int}(ha:fo a)(n:Nat):fo (a.drop n):=λc hc=>ha c (List.mem_of_mem_drop hc)
def yH(h:W8)(all:List Int):W8:=j6 h all (aK 64 (all.length/64))
def tJ(all:List Int):List Int:=all.drop (64*(all.length/64))
def JW(h:W8)(all:List Int)(xs:List Nat)(b:W8×List Int):Prop:=b=(j6 h all xs,[])/\∀x∈xs,x+64<=all.length
def JxW(h:W8)(all:List Int)(xs:List Nat)(b:W8×List Int):Prop:=∃pre x,xs=pre++[x]/\b=(j6 h all pre,qH all x)/\(∀y∈pre,y+64<=all.length)/\¬x+64<=all.length
theorem Qm(k:Nat):(aK 64 k).length=k:=by unfold aK;simp
theorem Qn{k:Nat}{pre:List Nat}{x:Nat}(h:aK 64 k=pre++[x]):∃q,k=q+1/\pre=aK 64 q/\x=q*64:=by
 cases k with
 |zero=>have:=congrArg List.length h;rw[Qm,List.length_append] at this;simp at this
 |succ q=>
  rw[fE] at h
  obtain⟨h1,h2⟩:=List.append_inj' h rfl
  exact⟨q,rfl,h1.symm,by simpa using h2.symm⟩
theorem zP{k y:Nat}:y∈aK 64 k↔∃q,q<k/\y=q*64:=by
 unfold aK
 rw[List.mem_map]
 constructor
 ·rintro⟨q,hq,rfl⟩;exact⟨q,List.mem_range.1 hq,rfl⟩
 ·rintro⟨q,hq,rfl⟩;exact⟨q,List.mem_range.2 hq,rfl⟩
theorem VQ{h:W8}{all:List Int}{k:Nat}{b:W8×List Int}(h1:all.length<=k*64)(h2:k=0\/(k-1)*64<all.length)(hJ:JW h all (aK 64 k) b):b=(yH h all,tJ all):=by
 obtain⟨rfl,hf⟩:=hJ
 have hk:all.length=k*64:=by
  cases k with
  |zero=>omega
  |succ q=>have:=hf (q*64) (zP.2 ⟨q,by omega,rfl⟩);omega
 unfold yH tJ
 rw[show all.length/64=k from by omega,List.drop_eq_nil_of_le (by omega)]
theorem VR{h:W8}{all:List Int}{k:Nat}{b:W8×List Int}(hJ:JxW h all (aK 64 k) b):b=(yH h all,tJ all):=by
 obtain⟨pre,x,hp,rfl,hf,hx⟩:=hJ
 obtain⟨q,rfl,rfl,rfl⟩:=Qn hp
 have hq:q*64<=all.length:=by
  cases q with
  |zero=>omega
  |succ r=>have:=hf (r*64) (zP.2 ⟨r,by omega,rfl⟩);omega
 unfold yH tJ qH
 rw[show all.length/64=q from by omega,show 64*q=q*64 from by omega,List.take_of_length_le (by rw[List.length_drop];omega)]
theorem Lu(a b:List Int)(hs:a.length+b.length<=100000000000)(H:Hp):au Tryz.prog 218 [.sl [[.sl (bC a)],[.sl (bC b)]]] H (bB H (.sl (bC (a++b)))):=by
 have h:=NA [a,b] (by show 2<=1000;decide) (by simp;omega) H
 rw[show[a,b].flatten=a++b from by simp] at h
 exact h
theorem Gz(h:W8)(left b:List Int)(n:Nat)(hn:n<=10000000000)(hb:b.length<=10000000000)(hll:left.length<=64)(hbb:fo b)(hlb:fo left)(p:Nat)(G:Hp)(hG:Cx G)(hd:aP G [(p,.box 207 (Cw h left n))]):au Tryz.prog 177 [.ptr p 0,.sl (bC b)] (aD G [(p,.box 207 (Cw h left n))]) (λu H'=>∃news,aP G news/\H'=aD G news/\(u=.v (.int .i64 (b.length:Int))/\news=[(p,.box 207 (Cw (yH h (left++b)) (tJ (left++b)) (n+b.length)))])):=by
 have hbl:=dD b
 have hal:(left++b).length=left.length+b.length:=List.length_append
 have hab:fo (left++b):=hlb.app hbb
 refine aF (n:=51) (H0:=G) (I:=[(p,.box 207 (Cw h left n))]) Tryz.func177 (by kernel_rfl) U (by rw[Tryz.ntmps177];rfl) hd<|?_
 refine Q.rg<|S.dd<|D.box U U U λp2=>Q.as U<|Q.nt<|S.sq<|Q.rg<|Q.lc 0 E9 U U U<|S.qu (Z.pnf Tryz.underlying169 U)<|Q.nt<|S.cF U U<|UW.skip<|UQ.then<|Q.rg<|Q.lc 0 E9 U U U<|S.qu (Z.oZ U)<|Q.fa Pq U<|Q.lc 1 Ve U U U<|Q.mv U<|S.qu (Z.eq (u':=.v (.int .i64 (b.length:Int))) (Z.fM cK U) (by rw[hbl]))<|?_
 refine S.qu (Z.cv Tryz.underlying107 U (IntWalk.u64_in _ (by omega)) (by rw[Tryz.underlying3];rfl))<|?_
 refine S.qu (Z.add (r:=((n+b.length:Nat):Int)) U U (by rw[IntWalk.u64_in _ (by omega)];omega))<|?_
 refine S.qu (Z.oZ U)<|Q.fa Pq U<|S.s<|D.st 1 Ve U U U U U U U U λ_=>Q.nt<|Q.rg<|Q.lc 0 E9 U U U<|S.qu (Z.oZ U)<|Q.fa Pp U<|Q.lc 1 ET U U U<|Q.mv U<|S.qu (Z.bl row241 U U (bz U))<|S.qu (Z.call U U (λH=>Lu left b (by omega) H))<|Q.as U<|Q.nt<|Q.rg<|Q.lc 0 E9 U U U<|S.qu (Z.oZ U)<|Q.fa Pp U<|S.s<|D.st 1 ET U U U U U U U U λ_=>Q.nt<|S.sq<|Q.rg<|Q.mv U<|US.Pf 1 (aM:=[(p2,.box 169 [.ptr p 0]),(p,.box 207 (Cw h [] (n+b.length)))]) U U<|S.qu (Z.call U U (λH=>Gv _ 64 (by decide) H))<|Q.nt<|UW.block<|?_
 generalize left++b=all at hal hab⊢
 have hfe:(λx:Nat=>AV.sl (((bC all).drop x).take 64))=λx=>AV.sl (bC (qH all x)):=by
  funext x;unfold qH;rw[Cu,Ct]
 refine UW.rangeFunc (α:=Nat) (β:=W8×List Int) (gf:=217) (df:=[.rp [.sl (bC all)],.rp [.v (.int .i64 64)]]) (λxs=>∃k,xs=aK 64 k/\(bC all).length<=k*64/\(k=0\/(k-1)*64<(bC all).length)) (λxs=>∃k,xs=aK 64 k) (bC all).length (λx=> .sl (bC (qH all x))) 0 U ⟨_,rfl,by kernel_rfl,by kernel_rfl⟩ (by decide) (by decide) (λρ w lb h1 h2=>hfe▸Gx (bC all) (lJ all) (by rw[dD];omega) 64 (by decide) (by decide) h1 h2) (λb1=>[(p2,.box 169 [.ptr p 0]),(p,.box 207 (Cw b1.1 b1.2 (n+b.length)))]) (λb1=>[(p2,.box 169 [.ptr p 0]),(p,.box 207 (Cw b1.1 b1.2 (n+b.length)))]) (JW h all) (JxW h all) (h,[]) ⟨rfl,λx hx=>by cases hx⟩ U hG (λ_=>rfl) (λ_=>rfl) ?_ ?_ ?_
 ·intro lp pre x b1 hJ hN
  letI:Rd:=⟨some lp⟩
  obtain⟨rfl,hf⟩:=hJ
  dsimp only
  have hcl:=ND all x
  have hce:=dD (qH all x)
  have hco:=R3 hab x
  by_cases hx:x+64<=all.length
  ·refine UW.block<|S.sq<|Q.rg<|Q.mv U<|S.qu (Z.fM cK U)<|Q.bi U U U<|Q.nt<|S.cF U (decide_eq_false (by omega))<|UW.skip<|UQ.then<|?_
   refine' UW.bG (by kernel_rfl) [0,0,2,6,14,0,62,127,255,511] [some 40,some 41,some 42,some 43,some 44,some 45,some 46,some 47,some 48,none] [some (40,_),some (41,_),some (42,_),some (43,_),some (44,_),some (45,_),some (46,_),some (47,_),some (48,_),none] [9] [0,1,4] U (by decide) (by decide) (M.held (by decide) U U ?iU (M.held (by decide) U U ?iV (M.free (by decide) U U ?iW (M.free (by decide) U U ?iX (M.held (by decide) U U ?iY (M.free (by decide) U U ?iZ (M.free (by decide) U U ?ja (M.free (by decide) U U ?kH (M.free (by decide) U U ?nL (M.skip M.nil)))))))))) ?sI
   case iU=>exact Z.dM 0 E9 rfl rfl rfl
   case iV=>exact Z.dM 0 E9 rfl rfl rfl
   case iW=>(intro _;exact Z.oZ rfl)
   case iX=>(intro _;exact Z.fa Po rfl)
   case iY=>exact Z.SN 1 Di rfl rfl rfl
   case iZ=>(intro _;exact Z.mv rfl)
   case ja=>(intro _;exact Z.call rfl rfl (λH=>TG (j6 h all pre) (qH all x) (by omega) hco H))
   case kH=>(intro _;exact Z.oZ rfl)
   case nL=>(intro _;exact Z.fa Po rfl)
   refine CH.bX U U<|D.st 1 Di U U U U U U U U λ_=>CH.nil<|?_
   simp only[app,bS]
   refine UQ.aB<|?_
   exact S.rdn (vU (j6 h all pre) (qH all x),[]) ⟨by rw[Gy],λy hy=>(List.mem_append.1 hy).elim (hf y) (λe=>by rw[List.mem_singleton.1 e];exact hx)⟩ (.refl _)
  ·refine UW.block<|S.sq<|Q.rg<|Q.mv U<|S.qu (Z.fM cK U)<|Q.bi U U U<|Q.nt<|S.cT U (decide_eq_true (by omega))<|S.sq<|?_
   refine' UW.bG (by kernel_rfl) [0,0,2,7,15,31] [some 35,some 36,some 37,some 38,some 39,none] [some (35,_),some (36,_),some (37,_),some (38,_),some (39,_),none] [5] [0] U (by decide) (by decide) (M.held (by decide) U U ?jG (M.free (by decide) U U ?jH (M.free (by decide) U U ?jI (M.free (by decide) U U ?jJ (M.free (by decide) U U ?jK (M.skip M.nil)))))) ?uH
   case jG=>exact Z.dM 0 E9 rfl rfl rfl
   case jH=>(intro _;exact Z.mv rfl)
   case jI=>(intro _;exact Z.call rfl rfl (λH=>NB (qH all x) (by omega) H))
   case jJ=>(intro _;exact Z.oZ rfl)
   case jK=>(intro _;exact Z.fa Pp rfl)
   refine CH.bX U U<|D.st 1 ET U U U U U U U U λ_=>CH.nil<|?_
   simp only[app,bS]
   refine UQ.then<|UW.exit<|UQ.pass<|UQ.out (by decide)<|?_
   exact S.rdx (j6 h all pre,qH all x) ⟨pre,x,rfl,rfl,hf,hx⟩ (.refl _)
 ·rintro xs b1 ⟨k,rfl,h1,h2⟩ hJ
  rw[dD] at h1 h2
  rw[VQ h1 h2 hJ]
  refine UQ.aB<|UQ.then<|Q.rg<|Q.mv U<|S.qu (Z.fM cK U)<|Q.as U<|Q.nt<|UW.ret<|?_
  exact bR [_] (λ_=>ak U U) (.cons _ (.refl _)) λhd=>⟨_,hd,rfl,by rw[hbl],rfl⟩
 ·rintro pre b1 ⟨k,rfl⟩ hJ
  rw[VR hJ]
  refine UQ.here<|UQ.then<|Q.rg<|Q.mv U<|S.qu (Z.fM cK U)<|Q.as U<|Q.nt<|UW.ret<|?_
  exact bR [_] (λ_=>ak U U) (.cons _ (.refl _)) λhd=>⟨_,hd,rfl,by rw[hbl],rfl⟩
def ZL(w:Int):List Int:=[IntKind.u8.wrap (K5 w 24),IntKind.u8.wrap (K5 w 16),IntKind.u8.wrap (K5 w 8),IntKind.u8.wrap w]
def Cy(h:W8)(j:Nat):List Int:=((h.l.take j).map ZL).flatten
def NF(h:W8):List Int:=Cy h 8
theorem Bg(h:W8)(j:Nat)(hj:j<=8):(Cy h j).length=4*j:=by
 have:∀l:List Int,((l.map ZL).flatten).length=4*l.length:=by
  intro l
  induction l with
  |nil=>rfl
  |cons x r ih=>rw[List.map_cons,List.flatten_cons,List.length_append,ih,List.length_cons];show 4+_=_;omega
 unfold Cy
 rw[this,List.length_take,show h.l.length=8 from rfl,Nat.min_eq_left hj]
theorem TP(h:W8)(j:Nat)(hj:j<8):Cy h (j+1)=Cy h j++ZL (h.l.getD j 0):=by
 unfold Cy
 have hl:j<h.l.length:=hj
 rw[List.take_add_one,List.getElem?_eq_getElem hl,List.map_append,List.flatten_append,List.getD_eq_getElem?_getD,List.getElem?_eq_getElem hl]
 simp
theorem NG(h:W8)(j:Nat)(hj:j<8):(bC (Cy h j)).take (4*j)++[[.v (.int .u8 (IntKind.u8.wrap (K5 (h.l.getD j 0) 24)))],[.v (.int .u8 (IntKind.u8.wrap (K5 (h.l.getD j 0) 16)))],[.v (.int .u8 (IntKind.u8.wrap (K5 (h.l.getD j 0) 8)))],[.v (.int .u8 (IntKind.u8.wrap (h.l.getD j 0)))]]=bC (Cy h (j+1)):=by
 rw[List.take_of_length_le (by rw[dD,Bg h j (by omega)];omega),TP h j hj,Gu];rfl
theorem VS(x:Int):0<=IntKind.u8.wrap x/\IntKind.u8.wrap x<256:=by rw[IntKind.wrap_u8];omega
theorem ZM(h:W8):fo (NF h):=by
 intro c hc
 unfold NF Cy at hc
 obtain⟨l,hl,hcl⟩:=List.mem_flatten.1 hc
 obtain⟨w,_,rfl⟩:=List.mem_map.1 hl
 unfold ZL at hcl
 simp only[List.mem_cons,List.mem_nil_iff,or_false] at hcl
 rcases hcl with rfl|rfl|rfl|rfl<;>exact VS _
theorem VT(h:W8):(NF h).length=32:=Bg h 8 (by decide)
theorem VU(all:List Int):(tJ all).length<=64:=by unfold tJ;rw[List.length_drop];omega
theorem Qo(q r:Nat):aK 64 (q+r)=aK 64 q++(aK 64 r).map (q*64+ ·):=by
 induction r with
 |zero=>simp[aK]
 |succ r ih=>rw[<-Nat.add_assoc,fE,ih,fE,List.map_append,List.append_assoc];congr 2;simp;omega
theorem Bh{α β γ:Type}(g:β->α->β)(g':β->γ->β)(f:α->γ):∀(xs:List α) (h:β),(∀x∈xs,∀b,g b x=g' b (f x))->xs.foldl g h=(xs.map f).foldl g' h
 |[],_,_=>rfl
 |x::r,h,hc=>by
  rw[List.map_cons,List.foldl_cons,List.foldl_cons,hc x (by simp)]
  exact Bh g g' f r _ (λy hy=>hc y (by simp[hy]))
theorem Dv{all all':List Int}(xs:List Nat)(f:Nat->Nat)(h:W8)(hc:∀x∈xs,qH all x=qH all' (f x)):j6 h all xs=j6 h all' (xs.map f):=by
 unfold j6
 exact Bh _ _ f xs h (λx hx b=>by rw[hc x hx])
theorem TQ(h:W8)(all:List Int)(xs ys:List Nat):j6 h all (xs++ys)=j6 (j6 h all xs) all ys:=by unfold j6;rw[List.foldl_append]
theorem ZN(h:W8)(b t:List Int):yH (yH h b) (tJ b++t)=yH h (b++t):=by
 have hrl:(tJ b).length=b.length-64*(b.length/64):=by unfold tJ;rw[List.length_drop]
 have hq:(b++t).length/64=b.length/64+(tJ b++t).length/64:=by rw[List.length_append,List.length_append,hrl];omega
 unfold yH
 rw[hq,Qo,TQ]
 have e1:j6 h b (aK 64 (b.length/64))=j6 h (b++t) (aK 64 (b.length/64)):=by
  have:=Dv (all:=b) (all':=b++t) (aK 64 (b.length/64)) id h (λx hx=>by
   obtain⟨q,hq1,rfl⟩:=zP.1 hx
   unfold qH id
   rw[List.drop_append_of_le_length (by omega),List.take_append_of_le_length (by rw[List.length_drop];omega)])
  rwa [List.map_id] at this
 rw[e1]
 refine Dv _ _ _ λx hx=>?_
 unfold qH tJ
 rw[<-List.drop_append_of_le_length (l₂:=t) (by omega),List.drop_drop]
 congr 2;omega
def ry(b:List Int):List Int:=NF (yH W0 (b++jS b.length))
theorem NH(b:List Int):ry b=NF (yH W0 (b++jS b.length)):=rfl
theorem El(b:List Int):fo (ry b):=ZM _
theorem qI(b:List Int):(ry b).length=32:=VT _
theorem TR(h:W8)(left:List Int)(n:Nat)(hn:n<=10000000000)(hll:left.length<=64)(hlb:fo left)(p:Nat)(G:Hp)(hG:Cx G)(hd:aP G [(p,.box 207 (Cw h left n))]):au Tryz.prog 178 [.ptr p 0] (aD G [(p,.box 207 (Cw h left n))]) (λu H'=>∃news,aP G news/\H'=aD G news/\(u=.sl (bC (NF (yH h (left++jS n))))/\news=[(p,.box 207 (Cw h left n))])):=by
 have htl:=Cv n
 have hz:zN n<64:=by unfold zN;omega
 refine aF (n:=40) (H0:=G) (I:=[(p,.box 207 (Cw h left n))]) Tryz.func178 (by kernel_rfl) U (by rw[Tryz.ntmps178];rfl) hd<|?_
 refine Q.rg<|Q.as U<|Q.nt<|S.sq<|Q.rg<|Q.mv U<|S.qu (Z.pnf Tryz.underlying169 U)<|Q.nt<|S.cF U U<|UW.skip<|UQ.then<|Q.rg<|Q.mv U<|S.qu (Z.oZ U)<|S.qu (Z.bW 0 ty207 U U U)<|S.dd<|D.al z207 U U U λp3=>S.s<|D.st 0 ty207 U U U U U U U U λ_=>Q.nt<|Q.rg<|Q.mv U<|S.qu (Z.oZ U)<|Q.fa Pq U<|Q.lc 1 Ve U U U<|S.qu (Z.call U U (λ_=>TJ n (by omega) _))<|S.dd<|D.coe (.cons 0 U .nil) U U (λhD=>Gz h left (jS n) n (by omega) (by omega) hll (Ny n) hlb p3 _ (hG.ext U) hD)<|?_
 rintro _ _ ⟨rfl,rfl⟩
 refine Q.nt<|Q.rg<|Q.as U<|US.kZ 4 5 1 (by decide) U λp4=>Q.nt<|S.sq<|Q.rg<|Q.fa Po U<|S.qu (Z.SN 1 Di U U U)<|Q.mv U<|Q.nt<|UW.block<|?_
 generalize yH h (left++jS n)=x
 refine S.loop (λj:Nat×Nat=>[(21,.v (.int .i64 (j.1:Int))),(20,.agg (jr x.l)),(4,.own j.2 0 (4*j.1) 1)]) (λj=>[(j.2,.row 5 1 (bC (Cy x j.1))),(p,.box 207 (Cw h left n))]) (λj=>j.1<=8) (λj=>8-j.1) (0,p4) (Nat.zero_le _) ⟨rfl,rfl,rfl,trivial⟩ (.cons_cons _ (.cons _ (.refl _)))<|?_
 rintro⟨j,r⟩ hj
 dsimp only at hj⊢
 have hrl:=dD (Cy x j)
 rw[Bg x j hj] at hrl
 by_cases hlt:j<8
 ·have hk:=wZ x.l j hlt
  have hap:=NG x j hlt
  refine Q.rg<|Q.bi U U U<|Q.nt<|S.sq<|S.cT U (decide_eq_true (by omega))<|UW.skip<|UQ.then<|S.sq<|UW.block<|Q.rg<|S.qu (Z.xar mM jQ U U (by omega) (by omega) hk)<|Q.as U<|Q.nt<|S.rg<|Q.mv U<|Q.mv U<|S.qu (Z.FM U U (by omega))<|S.qu (Z.cv Tryz.underlying5 U U (by rw[Tryz.underlying203];rfl))<|?_
  refine Q.mv U<|S.qu (Z.FM U U (by omega))<|S.qu (Z.cv Tryz.underlying5 U U (by rw[Tryz.underlying203];rfl))<|?_
  refine Q.mv U<|S.qu (Z.FM U U (by omega))<|S.qu (Z.cv Tryz.underlying5 U U (by rw[Tryz.underlying203];rfl))<|?_
  refine Q.mv U<|S.qu (Z.cv Tryz.underlying5 U U (by rw[Tryz.underlying203];rfl))<|?_
  refine S.qu (Z.bl je U U (bz U))<|S.dd<|D.ap 0 je U U (by omega) U (.sl (kz U)) (by first|omega|(simp;omega)) hap λp37=>?_
  refine Q.as U<|US.nil<|UQ.aB<|UQ.then<|S.rg<|S.qu (Z.add (r:=((j+1:Nat):Int)) U U (IntWalk.i64_in _ (by omega)))<|Q.mv U<|US.nil<|?_
  refine S.back (j+1,p37) ⟨rfl,rfl,rfl,trivial⟩ (.refl _) (by omega) (by omega)
 ·have hj8:j=8:=by omega
  subst hj8
  refine Q.rg<|Q.bi U U U<|Q.nt<|S.sq<|S.cF U (decide_eq_false (by omega))<|UW.exit<|UQ.pass<|UQ.pass<|UQ.here<|UQ.then<|Q.rg<|Q.mv U<|Q.as U<|US.fV 2 0 (rs:=bC (NF x)) U U (by omega) (by rw[List.drop_zero];exact List.take_of_length_le (by omega))<|?_
  refine Q.nt<|UW.ret<|?_
  exact bR [_] (λ_=>ak U U) (.refl _) λhd=>⟨_,hd,rfl,rfl,rfl⟩
theorem NI(b:List Int)(hb:b.length<=10000000000)(hbb:fo b)(H:Hp)(hG:Cx H):au Tryz.prog 129 [.sl (bC b)] H (bB H (.sl (bC (ry b)))):=by
 have hrl:=VU b
 refine aF (n:=10) (H0:=H) (I:=[]) Tryz.func129 (by kernel_rfl) U (by rw[Tryz.ntmps129];rfl) .nil<|?_
 refine Q.rg<|Q.as U<|Q.nt<|Q.rg<|S.dd<|D.cn U U (λ_=>VO _)<|?_
 rintro _ _ ⟨p4,rfl,rfl⟩
 refine Q.as U<|Q.nt<|Q.rg<|Q.mv U<|Q.mv U<|S.dd<|D.coe (.cons 0 U .nil) U U (λhD=>Gz W0 [] b 0 (by decide) hb (by decide) hbb (λc hc=>by cases hc) p4 _ (hG.ext U) hD)<|?_
 rintro _ _ ⟨rfl,rfl⟩
 refine Q.nt<|Q.rg<|Q.mv U<|S.dd<|D.coe (.cons 0 U .nil) U U (λhD=>TR (yH W0 ([]++b)) (tJ ([]++b)) (0+b.length) (by omega) hrl (by rw[List.nil_append];exact hbb.drop _) p4 _ (hG.ext U) hD)<|?_
 (rintro _ _ ⟨rfl,rfl⟩;rw[List.nil_append,Nat.zero_add,ZN,<-NH])
 refine Q.as U<|Q.nt<|UW.ret<|S.bH (λ_=>ak U U)<|?_
 rfl
theorem VV(all:List Int)(x:Nat):((bC all).take (x+64)).drop x=bC (qH all x):=by
 unfold qH
 rw[Ct,Cu,List.drop_take]
 congr 2;omega
theorem Qp(h:W8)(all:List Int)(k:Nat):j6 h all (aK 64 (k+1))=vU (j6 h all (aK 64 k)) (qH all (k*64)):=by rw[fE,Gy]
theorem ZO(h:W8)(all:List Int):yH h all=j6 h all (aK 64 (all.length/64)):=rfl
theorem VW(b:List Int):(b++jS b.length).length=((b++jS b.length).length/64)*64:=by
 rw[List.length_append,Cv]
 unfold zN
 omega
theorem I8(b:List Int)(hb:b.length<=10000000000)(hbb:fo b)(H:Hp):au Tryz.prog 73 [.sl (bC b)] H (bB H (.sl (bC (ry b)))):=by
 have hbl:=dD b
 have hbs:=lJ b
 have htl:=dD (jS b.length)
 have hts:=lJ (jS b.length)
 have htl2:=Cv b.length
 have hz:zN b.length<64:=by unfold zN;omega
 have hall:fo (b++jS b.length):=hbb.app (Ny _)
 have hdiv:=VW b
 have hlen:(b++jS b.length).length=b.length+(jS b.length).length:=List.length_append
 have hap:(bC b).take b.length++bC (jS b.length)=bC (b++jS b.length):=by rw[List.take_of_length_le (by omega),Gu]
 have hel:=dD (b++jS b.length)
 refine aF (n:=64) (H0:=H) (I:=[]) Tryz.func73 (by kernel_rfl) U (by rw[Tryz.ntmps73];rfl) .nil<|?_
 refine Q.rg<|Q.as U<|Q.nt<|Q.rg<|Q.as U<|US.kZ 3 5 1 (by decide) U λp3=>Q.nt<|Q.rg<|Q.mv U<|Q.mv U<|S.dd<|D.ap 0 je U U (by decide) U (.sl hbs) (by omega) (rws:=bC b) U λVX=>?_
 rw[Nat.zero_add,hbl]
 refine Q.as U<|Q.nt<|Q.rg<|Q.mv U<|S.qu (Z.eq (u':=.v (.int .i64 (b.length:Int))) (Z.fM cK U) (by rw[hbl]))<|?_
 refine S.qu (Z.cv Tryz.underlying107 U (IntWalk.u64_in _ (by omega)) (by rw[Tryz.underlying3];rfl))<|?_
 refine S.qu (Z.call U U (λH=>Ql b.length (by omega) H))<|Q.as U<|Q.nt<|Q.rg<|Q.mv U<|Q.mv U<|S.dd<|D.ap 0 je U U (by omega) U (.sl hts) (by omega) hap λp18=>US.fV 18 0 (rs:=bC (b++jS b.length)) U U (by omega) (by rw[List.drop_zero];exact List.take_of_length_le (by omega))<|?_
 refine Q.as U<|Q.nt<|Q.rg<|S.qu (Z.eq (u':=.sl (encR W0.l)) (Z.bl wN U U (bz U)) U)<|Q.as U<|Q.nt<|S.sq<|Q.rg<|Q.as U<|Q.nt<|UW.block<|?_
 rw[NH]
 generalize b++jS b.length=all at hall hdiv hlen hap hel⊢
 have hals:=lJ all
 refine S.loop (λk:Nat=>[(6,.v (.int .i64 ((k*64:Nat):Int))),(5,.sl (encR (j6 W0 all (aK 64 k)).l)),(3,.sl (bC all))]) (λ_=>[]) (λk=>k<=all.length/64) (λk=>all.length/64-k) 0 (Nat.zero_le _) ⟨rfl,rfl,rfl,trivial⟩ (List.nil_sublist _)<|?_
 intro k hk
 by_cases hlt:k<all.length/64
 ·have hcl:=ND all (k*64)
  have hco:=R3 hall (k*64)
  refine S.sq<|Q.rg<|Q.mv U<|Q.mv U<|S.qu (Z.fM cK U)<|Q.bi U U U<|Q.nt<|S.cT U (decide_eq_true (by omega))<|UW.skip<|UQ.then<|S.sq<|UW.block<|S.rg<|Q.mv U<|Q.mv U<|Q.mv U<|Q.mv U<|S.qu (Z.add (r:=((k*64+64:Nat):Int)) U U (IntWalk.i64_in _ (by omega)))<|S.qu (Z.Xl cK U hals (.both U U) (by omega) (by omega) (VV all (k*64)))<|S.qu (Z.eq (u':=.sl (encR (j6 W0 all (aK 64 (k+1))).l)) (Z.call U U (λH=>Qa (j6 W0 all (aK 64 k)) (qH all (k*64)) (by omega) hco H)) (by rw[Qp]))<|?_
  refine Q.as U<|US.nil<|UQ.aB<|UQ.then<|S.rg<|Q.mv U<|S.qu (Z.add (r:=(((k+1)*64:Nat):Int)) U U (by rw[IntWalk.i64_in _ (by omega)];omega))<|?_
  refine Q.as U<|US.nil<|?_
  refine S.back (k+1) ⟨rfl,rfl,rfl,trivial⟩ (.refl _) (by omega) (by omega)
 ·have hkq:k=all.length/64:=by omega
  subst hkq
  rw[<-ZO]
  generalize yH W0 all=x
  refine S.sq<|Q.rg<|Q.mv U<|Q.mv U<|S.qu (Z.fM cK U)<|Q.bi U U U<|Q.nt<|S.cF U (decide_eq_false (by omega))<|UW.exit<|UQ.pass<|UQ.pass<|UQ.here<|UQ.then<|Q.rg<|Q.as U<|US.kZ 7 5 1 (by decide) U λp7=>Q.nt<|S.sq<|Q.rg<|Q.as U<|Q.nt<|UW.block<|S.loop (λj:Nat×Nat=>[(8,.v (.int .i64 (j.1:Int))),(7,.own j.2 0 (4*j.1) 1),(5,.sl (encR x.l))]) (λj=>[(j.2,.row 5 1 (bC (Cy x j.1)))]) (λj=>j.1<=8) (λj=>8-j.1) (0,p7) (Nat.zero_le _) ⟨rfl,rfl,rfl,trivial⟩ (.refl _)<|?_
  rintro⟨j,r⟩ hj
  dsimp only at hj⊢
  have hrl:=dD (Cy x j)
  rw[Bg x j hj] at hrl
  by_cases hlt:j<8
  ·have hk:=mO x.l j hlt
   have hap:=NG x j hlt
   refine S.sq<|Q.rg<|Q.mv U<|Q.bi U U U<|Q.nt<|S.cT U (decide_eq_true (by omega))<|UW.skip<|UQ.then<|S.sq<|UW.block<|?_
   refine' UW.bG (by kernel_rfl) [0,0,0,6,14,30,62,0,0,384,896,1920,3968,0,0,24576,57344,122880,253952,0,0,1572864,3670016,7864320,16777214,33554431,67108863] [some 37,some 38,some 39,some 40,some 41,some 42,some 43,some 44,some 45,some 46,some 47,some 48,some 49,some 50,some 51,some 52,some 53,some 54,some 55,some 56,some 57,some 58,some 59,some 60,some 61,none,none] [some (37,_),some (38,_),some (39,_),some (40,_),some (41,_),some (42,_),some (43,_),some (44,_),some (45,_),some (46,_),some (47,_),some (48,_),some (49,_),some (50,_),some (51,_),some (52,_),some (53,_),some (54,_),some (55,_),some (56,_),some (57,_),some (58,_),some (59,_),some (60,_),some (61,_),none,none] [25,26] [4,10,16,22] U (by decide) (by decide) (M.free (by decide) U U ?Gj (M.free (by decide) U U ?Gl (M.free (by decide) U U ?Gm (M.free (by decide) U U ?Gn (M.held (by decide) U U ?Gp (M.free (by decide) U U ?Gq (M.free (by decide) U U ?Gr (M.free (by decide) U U ?Gs (M.free (by decide) U U ?Gt (M.free (by decide) U U ?Qb (M.held (by decide) U U ?La (M.free (by decide) U U ?Lb (M.free (by decide) U U ?Lc (M.free (by decide) U U ?Ld (M.free (by decide) U U ?Le (M.free (by decide) U U ?Lf (M.held (by decide) U U ?Lg (M.free (by decide) U U ?Lh (M.free (by decide) U U ?Li (M.free (by decide) U U ?Lj (M.free (by decide) U U ?Ll (M.free (by decide) U U ?Lm (M.held (by decide) U U ?Lp (M.free (by decide) U U ?Lr (M.free (by decide) U U ?Ls (M.skip (M.skip M.nil))))))))))))))))))))))))))) ?VL
   case Gj=>(intro _;exact Z.mv rfl)
   case Gl=>(intro _;exact Z.mv rfl)
   case Gm=>(intro _;exact Z.mv rfl)
   case Gn=>(intro _;exact Z.ia jg rfl rfl (by omega) hk (by rfl))
   case Gp=>exact Z.fO jo rfl
   case Gq=>(intro _;exact Z.FM rfl rfl (by omega))
   case Gr=>(intro _;exact Z.cv Tryz.underlying5 rfl rfl (by rw[Tryz.underlying108];rfl))
   case Gs=>(intro _;exact Z.mv rfl)
   case Gt=>(intro _;exact Z.mv rfl)
   case Qb=>(intro _;exact Z.ia jg rfl rfl (by omega) hk (by rfl))
   case La=>exact Z.fO jo rfl
   case Lb=>(intro _;exact Z.FM rfl rfl (by omega))
   case Lc=>(intro _;exact Z.cv Tryz.underlying5 rfl rfl (by rw[Tryz.underlying108];rfl))
   case Ld=>(intro _;exact Z.mv rfl)
   case Le=>(intro _;exact Z.mv rfl)
   case Lf=>(intro _;exact Z.ia jg rfl rfl (by omega) hk (by rfl))
   case Lg=>exact Z.fO jo rfl
   case Lh=>(intro _;exact Z.FM rfl rfl (by omega))
   case Li=>(intro _;exact Z.cv Tryz.underlying5 rfl rfl (by rw[Tryz.underlying108];rfl))
   case Lj=>(intro _;exact Z.mv rfl)
   case Ll=>(intro _;exact Z.mv rfl)
   case Lm=>(intro _;exact Z.ia jg rfl rfl (by omega) hk (by rfl))
   case Lp=>exact Z.fO jo rfl
   case Lr=>(intro _;exact Z.cv Tryz.underlying5 rfl rfl (by rw[Tryz.underlying108];rfl))
   case Ls=>(intro _;exact Z.bl je rfl rfl (bz rfl))
   refine CH.cons U U (by decide)<|D.ap 0 je U U (by omega) U (.sl (kz U)) (by first|omega|(simp;omega)) hap λp62=>?_
   refine CH.cons U U (by decide)<|D.qu (Z.as U)<|CH.nil<|?_
   simp only[app,bS]
   refine UQ.aB<|UQ.then<|S.rg<|Q.mv U<|S.qu (Z.add (r:=((j+1:Nat):Int)) U U (IntWalk.i64_in _ (by omega)))<|Q.as U<|US.nil<|?_
   refine S.back (j+1,p62) ⟨rfl,rfl,rfl,trivial⟩ (.refl _) (by omega) (by omega)
  ·have hj8:j=8:=by omega
   subst hj8
   refine S.sq<|Q.rg<|Q.mv U<|Q.bi U U U<|Q.nt<|S.cF U (decide_eq_false (by omega))<|UW.exit<|UQ.pass<|UQ.pass<|UQ.here<|UQ.then<|Q.rg<|Q.mv U<|Q.as U<|US.fV 2 0 (rs:=bC (NF x)) U U (by omega) (by rw[List.drop_zero];exact List.take_of_length_le (by omega))<|?_
   refine Q.nt<|UW.ret<|S.bH (λ_=>ak U U)<|?_
   rfl
end Go.Proofs.YtonpfomjoiaacaaGreatDoor
end
