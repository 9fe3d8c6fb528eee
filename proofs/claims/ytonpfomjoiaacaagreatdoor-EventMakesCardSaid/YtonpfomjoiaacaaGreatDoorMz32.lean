/- A part of the proof. -/
import Derived.Test.YtonpfomjoiaacaaGreatDoorMz14
import Derived.Test.YtonpfomjoiaacaaGreatDoorMz27
import Derived.Test.YtonpfomjoiaacaaGreatDoorMz31
import Derived.Test.YtonpfomjoiaacaaGreatDoorMz30
set_option maxRecDepth 100000
set_option maxHeartbeats 4000000
set_option linter.unusedSectionVars false
set_option linter.unusedVariables false
set_option linter.unusedSimpArgs false
section
namespace Go.Proofs.YtonpfomjoiaacaaGreatDoor
open Go Go.fT Go.RowKit
theorem LJ(rows:List (List AV))(c:Int)(hc:1<=c)(H:Hp):au Tryz.prog 175 [.sl rows,.v (.int .i64 c)] H (λu H'=>∃i j,u=.gN 217 [.ptr i 0,.ptr j 0]/\aM H [(j,.box 3 [.v (.int .i64 c)]),(i,.box 22 [.sl rows])]/\H'=aC H [(j,.box 3 [.v (.int .i64 c)]),(i,.box 22 [.sl rows])]):=by
 refine aF (n:=9) (H0:=H) (I:=[]) Tryz.func175 (by kernel_rfl) U (by rw[Tryz.ntmps175];rfl) .nil<|?_
 refine Q.rg<|S.dd<|D.box U U U λp2=>S.dd<|D.box U U U λp3=>Q.as U<|Q.nt<|S.sq<|Q.rg<|Q.lc 0 eQ U U U<|Q.bi U U U<|Q.nt<|S.cF U (decide_eq_false (by omega))<|UW.skip<|UQ.then<|Q.rg<|S.qu (Z.mf U)<|Q.as U<|Q.nt<|UW.ret<|?_
 exact bN [_,_] (λ_=>ak U U) (.refl _) λhd=>⟨_,_,rfl,hd,rfl⟩
theorem EE(rows:List (List AV))(c:Int)(hc:1<=c)(H:Hp):au Tryz.prog 175 [.sl rows,.v (.int .i64 c)] H (bz H (.gN 217 [.rp [.sl rows],.rp [.v (.int .i64 c)]])):=by
 refine(LJ rows c hc H).post<|?_
 rintro u H1 ⟨i,j,rfl,hd,rfl⟩
 refine⟨_,H,nR hd,?_,rfl,rfl⟩
 have hi:aC H [(j,.box 3 [.v (.int .i64 c)]),(i,.box 22 [.sl rows])] i=some (.box 22 [.sl rows]):=hd.at_ (k:=1) U
 have hj:aC H [(j,.box 3 [.v (.int .i64 c)]),(i,.box 22 [.sl rows])] j=some (.box 3 [.v (.int .i64 c)]):=hd.at_ (k:=0) U
 refine bL.gN U λk u u' h1 h2=>?_
 match k with
 |0=>simp at h1 h2;subst h1 h2;exact bL.rpb (nR hd) hi (hd.base (k:=1) U)
 |1=>simp at h1 h2;subst h1 h2;exact bL.rpb (nR hd) hj (hd.base (k:=0) U)
 |k+2=>simp at h1
theorem Rt{ok:Nat->Prop}{ρ:gz}{w:World}{rows:List (List AV)}{a:Addr}{len cap:Nat}(hr:dU ok ρ w (.sl rows) (.slice (some a) len cap))(hs:∀cs∈rows,cs.length=1)(c x:Nat):dU ok ρ w (.sl ((rows.drop x).take c)) (uY a len c x):=by
 cases hr with
 |sl _ _ _ sz vals hcap hmax hok hsz hc hr2=>
  have hl:min c (rows.length-x)=((rows.drop x).take c).length:=by simp
  unfold uY
  rw[hl]
  refine .sl _ _ _ 1 (λi j=>vals (x+i) j) (by omega) (by rw[<-hl];omega) (λhn=>by rw[add_block];exact hok (λhe=>hn (by rw[he];simp))) (λcs hcs=>hs cs (List.mem_of_mem_drop (List.mem_of_mem_take hcs))) (λi cs j hi hj=>?_) (λi cs j u hi hj=>?_)
  ·rw[List.getElem?_take] at hi
   split at hi
   ·rw[List.getElem?_drop] at hi
    have e1:sz=1:=by rw[<-hs cs (List.mem_of_getElem? hi)];exact(hsz cs (List.mem_of_getElem? hi)).symm
    have:=hc _ cs j hi hj
    rw[e1] at this
    rw[add_add,show x+(i*1+j)=(x+i)*1+j from by omega]
    exact this
   ·cases hi
  ·rw[List.getElem?_take] at hi
   split at hi
   ·rw[List.getElem?_drop] at hi
    exact hr2 _ cs j u hi hj
   ·cases hi
theorem EF{w:World}{a:Addr}{v:Value}(h:w.cell? (a.add 0)=some v):a=⟨a.block,a.off,none⟩:=by
 have e:a.add 0=a:=by unfold Addr.add;simp
 rw[e] at h
 obtain⟨b,o,s⟩:=a
 cases s with
 |none=>rfl
 |some s=>unfold World.cell? at h;simp at h;split at h<;>simp_all
theorem Ue{w:World}{b1 b2:Nat}(h1:b1<w.heap.size)(h2:b2<w.heap.size)(W:World)(l:Nat)(o':Obj)(hl:w.heap.size<=l):nU b1 b2 W (W.putObj l o'):=
 ⟨World.putObj_heap_other (by omega),World.putObj_heap_other (by omega)⟩
theorem EG(rows:List (List AV))(hs:∀cs∈rows,cs.length=1)(hl:rows.length<=1000000000000)(c:Nat)(hc0:0<c)(hc1:c<=1000){ρ:gz}{H:Hp}{w:World}{lb:List Value}(hh:dN ρ H w)(hlb:KI (bF ρ H) ρ w [.rp [.sl rows],.rp [.v (.int .i64 (c:Int))]] lb):
 ∃encs Kp,Iter Tryz.prog (α:=Nat) 217 lb.toArray (λxs=>∃k,xs=aK c k/\rows.length<=k*c/\(k=0\/(k-1)*c<rows.length)) (λxs=>∃k,xs=aK c k) rows.length ρ H w (λx=> .sl ((rows.drop x).take c)) encs Kp:=by
 obtain⟨hl0,hr⟩:=hlb
 match lb,hl0,hr with
 |[v1,v2],hl0,hr=>
  have r1:=hr 0 _ _ U U
  have r2:=hr 1 _ _ U U
  clear hr hl0
  cases r1 with
  |rp _ a1 SH hok1 hc1' hr1=>
   cases r2 with
   |rp _ a2 vals2 hok2 hc2' hr2=>
    have c1:=(hc1' 0 (by simp)).1
    have r3:=hr1 0 _ U
    have c2:=(hc2' 0 (by simp)).1
    rw[aS (hr2 0 _ U)] at c2
    obtain⟨k1,l1⟩:=hok1 (by simp)
    obtain⟨k2,l2⟩:=hok2 (by simp)
    have p1:=EF c1
    have p2:=EF c2
    rw[show a1.add 0=a1 from by unfold Addr.add;simp] at c1
    rw[show a2.add 0=a2 from by unfold Addr.add;simp] at c2
    generalize SH 0=y at c1 r3
    obtain⟨b1,o1,s1⟩:=a1
    obtain⟨b2,o2,s2⟩:=a2
    cases p1
    cases p2
    have keep:∀Vn H1 W1 SE H2 W2,Ext ρ H w Vn H1 W1->Ext Vn H1 W1 SE H2 W2->nU b1 b2 W1 W2:=λVn H1 W1 SE H2 W2 e1 e2=>
     ⟨e2.block b1 (Nat.lt_of_lt_of_le l1 e1.size) (λho=>(e1.own b1 ho).elim k1 (λh=>absurd h (Nat.not_le.2 l1))),e2.block b2 (Nat.lt_of_lt_of_le l2 e1.size) (λho=>(e1.own b2 ho).elim k2 (λh=>absurd h (Nat.not_le.2 l2)))⟩
    have trans:∀{A B C:World},nU b1 b2 A B->nU b1 b2 B C->nU b1 b2 A C:=λh1 h2=>⟨h2.1.trans h1.1,h2.2.trans h1.2⟩
    cases r3 with
    |nil=>
     refine⟨λ_=> .slice none 0 0,nU b1 b2,⟨λl J Jx W hW hJ hJx hY h0=>?_,trans,λW l o o' h _ _ _=>Ue l1 l2 W l o' h,λx=>by simpa using dU.nil,keep⟩⟩
     refine(Rs (KD none) 2 trivial U l b1 o1 b2 o2 none 0 J W ((hW.cell (p:=⟨b1,o1,none⟩) l1).trans c1) h0).mono<|?_
     rintro e W' ⟨he,hj⟩
     exact⟨he,.inl ⟨[],⟨0,rfl,by simp,.inl U⟩,hj⟩⟩
    |sl _ a cap sz vals hcap hmax hok hsz hcc hrr=>
     refine⟨uY a rows.length c,nU b1 b2,⟨λl J Jx W hW hJ hJx hY h0=>?_,trans,λW l o o' h _ _ _=>Ue l1 l2 W l o' h,λx=>Rt (.sl rows a cap sz vals hcap hmax hok hsz hcc hrr) hs c x,keep⟩⟩
     refine(Rq (KD none) 2 trivial U (by decide) l b1 o1 b2 o2 a rows.length cap c hc0 hc1 hl hcap J Jx (λpre W h=>hJ pre W W.drew none h ⟨rfl,rfl,rfl,Nat.le_refl _,λ_ _ _=>rfl⟩ (λr e=>by cases e)) hY W ((hW.cell (p:=⟨b1,o1,none⟩) l1).trans c1) ((hW.cell (p:=⟨b2,o2,none⟩) l2).trans c2) h0).mono<|?_
     rintro e W' ⟨he,⟨k,g1,g2,g3⟩|⟨k,g1⟩⟩
     ·exact⟨he,.inl ⟨_,⟨k,rfl,g1,g2⟩,g3⟩⟩
     ·exact⟨he,.inr ⟨_,⟨k,rfl⟩,g1⟩⟩
end Go.Proofs.YtonpfomjoiaacaaGreatDoor
end
section
namespace Go.fT
open Go Go.RowKit
section
def AP(H:Hp):Prop:=∀id ob,H id=some ob->mJ ob=true
theorem AP.ext{H0:Hp}{os:List (Nat×Ob)}(h:AP H0)(ho:(os.all λp=>mJ p.2)=true):AP (aC H0 os):=λid ob hh=>by
 rcases Au hh with hh|hh
 ·exact List.all_eq_true.1 ho _ hh
 ·exact h id ob hh
theorem AP.raw{G:Hp}(h:aaE G):AP G:=λid ob hh=>by
 obtain⟨g,x,rfl⟩:=h _ _ hh
 rfl
variable [Rd]
section
variable {P:Program} {n:Nat} {ops:Array Oper} {H0:Hp} {l:List (Nat×AV)} {I nA FZ:List (Nat×Ob)} {dst:Option Nat} {ty:TypeId} {ps:String} {af:Array Edge} {cc:Operand} {args:Array Operand} {at_:Array TypeId} {f:FuncId} {us bS:List AV} {R:AV->List (Nat×Ob)->Prop} {K:AV->List (Nat×Ob)->Prop}
theorem D.coe(hpk:Dj I nA FZ)(hc:aT l cc=some (.gN f bS))(ha:gW l args.toList=some us)(h:aM (aC H0 FZ) nA->au P f (us++bS) (aC (aC H0 FZ) nA) (λu H'=>∃news,aM (aC H0 FZ) news/\H'=aC (aC H0 FZ) news/\R u news))(hk:∀u news,R u news->K u (news++FZ)):
 DS P n ops H0 ⟨dst,.call {callee:=.value cc,args:=args,argTypes:=at_},ty,ps,af,none⟩ l I K:=λhd=>by
 obtain⟨a,b,c⟩:=hpk.split hd
 refine Does.call U U (aG hc) ?_
 rw[jC ha,c]
 exact(h b).mono λu H' ⟨news,h1,h2,h3⟩=>⟨news++FZ,by rw[h2,qP],aM.app a h1,hk u news h3⟩
theorem D.cne(hc:aT l cc=some (.gN f bS))(ha:gW l args.toList=some us)(h:aM H0 I->au P f (us++bS) (aC H0 I) (λu H'=>∃news,aM (aC H0 I) news/\H'=aC (aC H0 I) news/\R u news))(hk:∀u news,R u news->K u (news++I)):
 DS P n ops H0 ⟨dst,.call {callee:=.value cc,args:=args,argTypes:=at_},ty,ps,af,none⟩ l I K:=λhd=>by
 refine Does.call U U (aG hc) ?_
 rw[jC ha]
 exact(h hd).mono λu H' ⟨news,h1,h2,h3⟩=>⟨news++I,by rw[h2,qP],aM.app hd h1,hk u news h3⟩
theorem au.ZA{us:List AV}{r:AV}{H:Hp}(hR:aaE (low H))(h:au P f us (low H) (bz (low H) r))(hr:Dg r=true):au P f us H (bz H r):=
 au.borrow (P5 H) (λi ob hi=>by obtain⟨g,x,rfl⟩:=hR i ob hi;rfl) rfl (λj u u' h1 h2=>by rw[h1] at h2;cases h2;exact bL.drop (P5 H) _) h hr
end
section
variable {β:Type} {H0:Hp} {O Ox:β->List (Nat×Ob)} {J Jx:β->Prop} {ix:Nat} {l:List (Nat×AV)} {I:List (Nat×Ob)}
theorem S.rdn(b:β)(hJ:J b)(ho:(O b).Sublist I):UQ (Od H0 O Ox J Jx ix) H0 .normal l I:=λhd=>⟨b,hJ,hd.sub ho,fU hd (hd.sub ho) (λ_ hp=>ho.subset hp)⟩
theorem S.rdx(b:β)(hJ:Jx b)(ho:(Ox b).Sublist I):UQ (Od H0 O Ox J Jx ix) H0 (.exit ix) l I:=λhd=>⟨rfl,b,hJ,hd.sub ho,fU hd (hd.sub ho) (λ_ hp=>ho.subset hp)⟩
end
end
end Go.fT
end
section
namespace Go.Proofs.YtonpfomjoiaacaaGreatDoor
open Go Go.fT Go.RowKit
def pg(all:List Int)(x:Nat):List Int:=(all.drop x).take 64
def jD(h:W8)(all:List Int)(xs:List Nat):W8:=xs.foldl (λh x=>uk h (pg all x)) h
theorem EH(h:W8)(all:List Int)(xs:List Nat)(x:Nat):jD h all (xs++[x])=uk (jD h all xs) (pg all x):=by unfold jD;rw[List.foldl_append];rfl
theorem LK(all:List Int)(x:Nat):(pg all x).length=min 64 (all.length-x):=by unfold pg;rw[List.length_take,List.length_drop]
theorem Qa{all:List Int}(h:eO all)(x:Nat):eO (pg all x):=λc hc=>h c (List.mem_of_mem_drop (List.mem_of_mem_take hc))
theorem eO.app{a b:List Int}(ha:eO a)(hb:eO b):eO (a++b):=λc hc=>(List.mem_append.1 hc).elim (ha c) (hb c)
theorem eO.drop{a:List Int}(ha:eO a)(n:Nat):eO (a.drop n):=λc hc=>ha c (List.mem_of_mem_drop hc)
def wL(h:W8)(all:List Int):W8:=jD h all (aK 64 (all.length/64))
def qW(all:List Int):List Int:=all.drop (64*(all.length/64))
def JW(h:W8)(all:List Int)(xs:List Nat)(b:W8×List Int):Prop:=b=(jD h all xs,[])/\∀x∈xs,x+64<=all.length
def JxW(h:W8)(all:List Int)(xs:List Nat)(b:W8×List Int):Prop:=∃pre x,xs=pre++[x]/\b=(jD h all pre,pg all x)/\(∀y∈pre,y+64<=all.length)/\¬x+64<=all.length
theorem OE(k:Nat):(aK 64 k).length=k:=by unfold aK;simp
theorem OG{k:Nat}{pre:List Nat}{x:Nat}(h:aK 64 k=pre++[x]):∃q,k=q+1/\pre=aK 64 q/\x=q*64:=by
 cases k with
 |zero=>have:=congrArg List.length h;rw[OE,List.length_append] at this;simp at this
 |succ q=>
  rw[eT] at h
  obtain⟨h1,h2⟩:=List.append_inj' h rfl
  exact⟨q,rfl,h1.symm,by simpa using h2.symm⟩
theorem yg{k y:Nat}:y∈aK 64 k↔∃q,q<k/\y=q*64:=by
 unfold aK
 rw[List.mem_map]
 constructor
 ·rintro⟨q,hq,rfl⟩;exact⟨q,List.mem_range.1 hq,rfl⟩
 ·rintro⟨q,hq,rfl⟩;exact⟨q,List.mem_range.2 hq,rfl⟩
theorem Uf{h:W8}{all:List Int}{k:Nat}{b:W8×List Int}(h1:all.length<=k*64)(h2:k=0\/(k-1)*64<all.length)(hJ:JW h all (aK 64 k) b):b=(wL h all,qW all):=by
 obtain⟨rfl,hf⟩:=hJ
 have hk:all.length=k*64:=by
  cases k with
  |zero=>omega
  |succ q=>have:=hf (q*64) (yg.2 ⟨q,by omega,rfl⟩);omega
 unfold wL qW
 rw[show all.length/64=k from by omega,List.drop_eq_nil_of_le (by omega)]
theorem Ug{h:W8}{all:List Int}{k:Nat}{b:W8×List Int}(hJ:JxW h all (aK 64 k) b):b=(wL h all,qW all):=by
 obtain⟨pre,x,hp,rfl,hf,hx⟩:=hJ
 obtain⟨q,rfl,rfl,rfl⟩:=OG hp
 have hq:q*64<=all.length:=by
  cases q with
  |zero=>omega
  |succ r=>have:=hf (r*64) (yg.2 ⟨r,by omega,rfl⟩);omega
 unfold wL qW pg
 rw[show all.length/64=q from by omega,show 64*q=q*64 from by omega,List.take_of_length_le (by rw[List.length_drop];omega)]
theorem JN(a b:List Int)(hs:a.length+b.length<=100000000000)(H:Hp):au Tryz.prog 218 [.sl [[.sl (bf a)],[.sl (bf b)]]] H (bz H (.sl (bf (a++b)))):=by
 have h:=LG [a,b] (by show 2<=1000;decide) (by simp;omega) H
 rw[show[a,b].flatten=a++b from by simp] at h
 exact h
theorem EI(h:W8)(left b:List Int)(n:Nat)(hn:n<=10000000000)(hb:b.length<=10000000000)(hll:left.length<=64)(hbb:eO b)(hlb:eO left)(p:Nat)(G:Hp)(hG:AP G)(hd:aM G [(p,.box 207 (AO h left n))]):au Tryz.prog 177 [.ptr p 0,.sl (bf b)] (aC G [(p,.box 207 (AO h left n))]) (λu H'=>∃news,aM G news/\H'=aC G news/\(u=.v (.int .i64 (b.length:Int))/\news=[(p,.box 207 (AO (wL h (left++b)) (qW (left++b)) (n+b.length)))])):=by
 have hbl:=bY b
 have hal:(left++b).length=left.length+b.length:=List.length_append
 have hab:eO (left++b):=hlb.app hbb
 refine aF (n:=51) (H0:=G) (I:=[(p,.box 207 (AO h left n))]) Tryz.func177 (by kernel_rfl) U (by rw[Tryz.ntmps177];rfl) hd<|?_
 refine Q.rg<|S.dd<|D.box U U U λp2=>Q.as U<|Q.nt<|S.sq<|Q.rg<|Q.lc 0 Dl U U U<|S.qu (Z.pnf Tryz.underlying169 U)<|Q.nt<|S.cF U U<|UW.skip<|UQ.then<|Q.rg<|Q.lc 0 Dl U U U<|S.qu (Z.nN U)<|Q.fa NA U<|Q.lc 1 Tn U U U<|Q.mv U<|S.qu (Z.eq (u':=.v (.int .i64 (b.length:Int))) (Z.fG bR U) (by rw[hbl]))<|?_
 refine S.qu (Z.cv Tryz.underlying107 U (IntWalk.u64_in _ (by omega)) (by rw[Tryz.underlying3];rfl))<|?_
 refine S.qu (Z.add (r:=((n+b.length:Nat):Int)) U U (by rw[IntWalk.u64_in _ (by omega)];omega))<|?_
 refine S.qu (Z.nN U)<|Q.fa NA U<|S.s<|D.st 1 Tn U U U U U U U U λ_=>Q.nt<|Q.rg<|Q.lc 0 Dl U U U<|S.qu (Z.nN U)<|Q.fa Nz U<|Q.lc 1 De U U U<|Q.mv U<|S.qu (Z.bl Z7 U U (bA U))<|S.qu (Z.call U U (λH=>JN left b (by omega) H))<|Q.as U<|Q.nt<|Q.rg<|Q.lc 0 Dl U U U<|S.qu (Z.nN U)<|Q.fa Nz U<|S.s<|D.st 1 De U U U U U U U U λ_=>Q.nt<|S.sq<|Q.rg<|Q.mv U<|US.Nq 1 (aL:=[(p2,.box 169 [.ptr p 0]),(p,.box 207 (AO h [] (n+b.length)))]) U U<|S.qu (Z.call U U (λH=>EE _ 64 (by decide) H))<|Q.nt<|UW.block<|?_
 generalize left++b=all at hal hab⊢
 have hfe:(λx:Nat=>AV.sl (((bf all).drop x).take 64))=λx=>AV.sl (bf (pg all x)):=by
  funext x;unfold pg;rw[AJ,AB]
 refine UW.rangeFunc (α:=Nat) (β:=W8×List Int) (gf:=217) (bS:=[.rp [.sl (bf all)],.rp [.v (.int .i64 64)]]) (λxs=>∃k,xs=aK 64 k/\(bf all).length<=k*64/\(k=0\/(k-1)*64<(bf all).length)) (λxs=>∃k,xs=aK 64 k) (bf all).length (λx=> .sl (bf (pg all x))) 0 U ⟨_,rfl,by kernel_rfl,by kernel_rfl⟩ (by decide) (by decide) (λρ w lb h1 h2=>hfe▸EG (bf all) (kC all) (by rw[bY];omega) 64 (by decide) (by decide) h1 h2) (λb1=>[(p2,.box 169 [.ptr p 0]),(p,.box 207 (AO b1.1 b1.2 (n+b.length)))]) (λb1=>[(p2,.box 169 [.ptr p 0]),(p,.box 207 (AO b1.1 b1.2 (n+b.length)))]) (JW h all) (JxW h all) (h,[]) ⟨rfl,λx hx=>by cases hx⟩ U hG (λ_=>rfl) (λ_=>rfl) ?_ ?_ ?_
 ·intro lp pre x b1 hJ hN
  letI:Rd:=⟨some lp⟩
  obtain⟨rfl,hf⟩:=hJ
  dsimp only
  have hcl:=LK all x
  have hce:=bY (pg all x)
  have hco:=Qa hab x
  by_cases hx:x+64<=all.length
  ·refine UW.block<|S.sq<|Q.rg<|Q.mv U<|S.qu (Z.fG bR U)<|Q.bi U U U<|Q.nt<|S.cF U (decide_eq_false (by omega))<|UW.skip<|UQ.then<|?_
   refine' UW.bG (by kernel_rfl) [0,0,2,6,14,0,62,127,255,511] [some 40,some 41,some 42,some 43,some 44,some 45,some 46,some 47,some 48,none] [some (40,_),some (41,_),some (42,_),some (43,_),some (44,_),some (45,_),some (46,_),some (47,_),some (48,_),none] [9] [0,1,4] U (by decide) (by decide) (M.held (by decide) U U ?iX (M.held (by decide) U U ?iY (M.free (by decide) U U ?iZ (M.free (by decide) U U ?ja (M.held (by decide) U U ?jb (M.free (by decide) U U ?jc (M.free (by decide) U U ?jd (M.free (by decide) U U ?kH (M.free (by decide) U U ?o6 (M.skip M.nil)))))))))) ?sj
   case iX=>exact Z.di 0 Dl rfl rfl rfl
   case iY=>exact Z.di 0 Dl rfl rfl rfl
   case iZ=>(intro _;exact Z.nN rfl)
   case ja=>(intro _;exact Z.fa Ny rfl)
   case jb=>exact Z.QJ 1 Br rfl rfl rfl
   case jc=>(intro _;exact Z.mv rfl)
   case jd=>(intro _;exact Z.call rfl rfl (λH=>Rl (jD h all pre) (pg all x) (by omega) hco H))
   case kH=>(intro _;exact Z.nN rfl)
   case o6=>(intro _;exact Z.fa Ny rfl)
   refine CH.df U U<|D.st 1 Br U U U U U U U U λ_=>CH.nil<|?_
   simp only[app,bV]
   refine UQ.aB<|?_
   exact S.rdn (uk (jD h all pre) (pg all x),[]) ⟨by rw[EH],λy hy=>(List.mem_append.1 hy).elim (hf y) (λe=>by rw[List.mem_singleton.1 e];exact hx)⟩ (.refl _)
  ·refine UW.block<|S.sq<|Q.rg<|Q.mv U<|S.qu (Z.fG bR U)<|Q.bi U U U<|Q.nt<|S.cT U (decide_eq_true (by omega))<|S.sq<|?_
   refine' UW.bG (by kernel_rfl) [0,0,2,7,15,31] [some 35,some 36,some 37,some 38,some 39,none] [some (35,_),some (36,_),some (37,_),some (38,_),some (39,_),none] [5] [0] U (by decide) (by decide) (M.held (by decide) U U ?je (M.free (by decide) U U ?jf (M.free (by decide) U U ?jg (M.free (by decide) U U ?jh (M.free (by decide) U U ?ji (M.skip M.nil)))))) ?su
   case je=>exact Z.di 0 Dl rfl rfl rfl
   case jf=>(intro _;exact Z.mv rfl)
   case jg=>(intro _;exact Z.call rfl rfl (λH=>LH (pg all x) (by omega) H))
   case jh=>(intro _;exact Z.nN rfl)
   case ji=>(intro _;exact Z.fa Nz rfl)
   refine CH.df U U<|D.st 1 De U U U U U U U U λ_=>CH.nil<|?_
   simp only[app,bV]
   refine UQ.then<|UW.exit<|UQ.pass<|UQ.out (by decide)<|?_
   exact S.rdx (jD h all pre,pg all x) ⟨pre,x,rfl,rfl,hf,hx⟩ (.refl _)
 ·rintro xs b1 ⟨k,rfl,h1,h2⟩ hJ
  rw[bY] at h1 h2
  rw[Uf h1 h2 hJ]
  refine UQ.aB<|UQ.then<|Q.rg<|Q.mv U<|S.qu (Z.fG bR U)<|Q.as U<|Q.nt<|UW.ret<|?_
  exact bN [_] (λ_=>ak U U) (.cons _ (.refl _)) λhd=>⟨_,hd,rfl,by rw[hbl],rfl⟩
 ·rintro pre b1 ⟨k,rfl⟩ hJ
  rw[Ug hJ]
  refine UQ.here<|UQ.then<|Q.rg<|Q.mv U<|S.qu (Z.fG bR U)<|Q.as U<|Q.nt<|UW.ret<|?_
  exact bN [_] (λ_=>ak U U) (.cons _ (.refl _)) λhd=>⟨_,hd,rfl,by rw[hbl],rfl⟩
def X4(w:Int):List Int:=[IntKind.u8.wrap (Jr w 24),IntKind.u8.wrap (Jr w 16),IntKind.u8.wrap (Jr w 8),IntKind.u8.wrap w]
def AQ(h:W8)(j:Nat):List Int:=((h.l.take j).map X4).flatten
def LM(h:W8):List Int:=AQ h 8
theorem zy(h:W8)(j:Nat)(hj:j<=8):(AQ h j).length=4*j:=by
 have:∀l:List Int,((l.map X4).flatten).length=4*l.length:=by
  intro l
  induction l with
  |nil=>rfl
  |cons x r ih=>rw[List.map_cons,List.flatten_cons,List.length_append,ih,List.length_cons];show 4+_=_;omega
 unfold AQ
 rw[this,List.length_take,show h.l.length=8 from rfl,Nat.min_eq_left hj]
theorem Ru(h:W8)(j:Nat)(hj:j<8):AQ h (j+1)=AQ h j++X4 (h.l.getD j 0):=by
 unfold AQ
 have hl:j<h.l.length:=hj
 rw[List.take_add_one,List.getElem?_eq_getElem hl,List.map_append,List.flatten_append,List.getD_eq_getElem?_getD,List.getElem?_eq_getElem hl]
 simp
theorem LP(h:W8)(j:Nat)(hj:j<8):(bf (AQ h j)).take (4*j)++[[.v (.int .u8 (IntKind.u8.wrap (Jr (h.l.getD j 0) 24)))],[.v (.int .u8 (IntKind.u8.wrap (Jr (h.l.getD j 0) 16)))],[.v (.int .u8 (IntKind.u8.wrap (Jr (h.l.getD j 0) 8)))],[.v (.int .u8 (IntKind.u8.wrap (h.l.getD j 0)))]]=bf (AQ h (j+1)):=by
 rw[List.take_of_length_le (by rw[bY,zy h j (by omega)];omega),Ru h j hj,ED];rfl
theorem Uh(x:Int):0<=IntKind.u8.wrap x/\IntKind.u8.wrap x<256:=by rw[IntKind.wrap_u8];omega
theorem X5(h:W8):eO (LM h):=by
 intro c hc
 unfold LM AQ at hc
 obtain⟨l,hl,hcl⟩:=List.mem_flatten.1 hc
 obtain⟨w,_,rfl⟩:=List.mem_map.1 hl
 unfold X4 at hcl
 simp only[List.mem_cons,List.mem_nil_iff,or_false] at hcl
 rcases hcl with rfl|rfl|rfl|rfl<;>exact Uh _
theorem Ui(h:W8):(LM h).length=32:=zy h 8 (by decide)
theorem Uj(all:List Int):(qW all).length<=64:=by unfold qW;rw[List.length_drop];omega
theorem OH(q r:Nat):aK 64 (q+r)=aK 64 q++(aK 64 r).map (q*64+ ·):=by
 induction r with
 |zero=>simp[aK]
 |succ r ih=>rw[<-Nat.add_assoc,eT,ih,eT,List.map_append,List.append_assoc];congr 2;simp;omega
theorem zz{α β γ:Type}(g:β->α->β)(g':β->γ->β)(f:α->γ):∀(xs:List α) (h:β),(∀x∈xs,∀b,g b x=g' b (f x))->xs.foldl g h=(xs.map f).foldl g' h
 |[],_,_=>rfl
 |x::r,h,hc=>by
  rw[List.map_cons,List.foldl_cons,List.foldl_cons,hc x (by simp)]
  exact zz g g' f r _ (λy hy=>hc y (by simp[hy]))
theorem BH{all all':List Int}(xs:List Nat)(f:Nat->Nat)(h:W8)(hc:∀x∈xs,pg all x=pg all' (f x)):jD h all xs=jD h all' (xs.map f):=by
 unfold jD
 exact zz _ _ f xs h (λx hx b=>by rw[hc x hx])
theorem Rv(h:W8)(all:List Int)(xs ys:List Nat):jD h all (xs++ys)=jD (jD h all xs) all ys:=by unfold jD;rw[List.foldl_append]
theorem X6(h:W8)(b t:List Int):wL (wL h b) (qW b++t)=wL h (b++t):=by
 have hrl:(qW b).length=b.length-64*(b.length/64):=by unfold qW;rw[List.length_drop]
 have hq:(b++t).length/64=b.length/64+(qW b++t).length/64:=by rw[List.length_append,List.length_append,hrl];omega
 unfold wL
 rw[hq,OH,Rv]
 have e1:jD h b (aK 64 (b.length/64))=jD h (b++t) (aK 64 (b.length/64)):=by
  have:=BH (all:=b) (all':=b++t) (aK 64 (b.length/64)) id h (λx hx=>by
   obtain⟨q,hq1,rfl⟩:=yg.1 hx
   unfold pg id
   rw[List.drop_append_of_le_length (by omega),List.take_append_of_le_length (by rw[List.length_drop];omega)])
  rwa [List.map_id] at this
 rw[e1]
 refine BH _ _ _ λx hx=>?_
 unfold pg qW
 rw[<-List.drop_append_of_le_length (l₂:=t) (by omega),List.drop_drop]
 congr 2;omega
def pV(b:List Int):List Int:=LM (wL W0 (b++jr b.length))
theorem LQ(b:List Int):pV b=LM (wL W0 (b++jr b.length)):=rfl
theorem Cu(b:List Int):eO (pV b):=X5 _
theorem pq(b:List Int):(pV b).length=32:=Ui _
theorem Rw(h:W8)(left:List Int)(n:Nat)(hn:n<=10000000000)(hll:left.length<=64)(hlb:eO left)(p:Nat)(G:Hp)(hG:AP G)(hd:aM G [(p,.box 207 (AO h left n))]):au Tryz.prog 178 [.ptr p 0] (aC G [(p,.box 207 (AO h left n))]) (λu H'=>∃news,aM G news/\H'=aC G news/\(u=.sl (bf (LM (wL h (left++jr n))))/\news=[(p,.box 207 (AO h left n))])):=by
 have htl:=AL n
 have hz:zN n<64:=by unfold zN;omega
 refine aF (n:=40) (H0:=G) (I:=[(p,.box 207 (AO h left n))]) Tryz.func178 (by kernel_rfl) U (by rw[Tryz.ntmps178];rfl) hd<|?_
 refine Q.rg<|Q.as U<|Q.nt<|S.sq<|Q.rg<|Q.mv U<|S.qu (Z.pnf Tryz.underlying169 U)<|Q.nt<|S.cF U U<|UW.skip<|UQ.then<|Q.rg<|Q.mv U<|S.qu (Z.nN U)<|S.qu (Z.dA 0 Zw U U U)<|S.dd<|D.al z207 U U U λp3=>S.s<|D.st 0 Zw U U U U U U U U λ_=>Q.nt<|Q.rg<|Q.mv U<|S.qu (Z.nN U)<|Q.fa NA U<|Q.lc 1 Tn U U U<|S.qu (Z.call U U (λ_=>Ro n (by omega) _))<|S.dd<|D.coe (.cons 0 U .nil) U U (λhD=>EI h left (jr n) n (by omega) (by omega) hll (LD n) hlb p3 _ (hG.ext U) hD)<|?_
 rintro _ _ ⟨rfl,rfl⟩
 refine Q.nt<|Q.rg<|Q.as U<|US.kG 4 5 1 (by decide) U λp4=>Q.nt<|S.sq<|Q.rg<|Q.fa Ny U<|S.qu (Z.QJ 1 Br U U U)<|Q.mv U<|Q.nt<|UW.block<|?_
 generalize wL h (left++jr n)=x
 refine S.loop (λj:Nat×Nat=>[(21,.v (.int .i64 (j.1:Int))),(20,.agg (iN x.l)),(4,.own j.2 0 (4*j.1) 1)]) (λj=>[(j.2,.row 5 1 (bf (AQ x j.1))),(p,.box 207 (AO h left n))]) (λj=>j.1<=8) (λj=>8-j.1) (0,p4) (Nat.zero_le _) ⟨rfl,rfl,rfl,trivial⟩ (.cons_cons _ (.cons _ (.refl _)))<|?_
 rintro⟨j,r⟩ hj
 dsimp only at hj⊢
 have hrl:=bY (AQ x j)
 rw[zy x j hj] at hrl
 by_cases hlt:j<8
 ·have hk:=uX x.l j hlt
  have hap:=LP x j hlt
  refine Q.rg<|Q.bi U U U<|Q.nt<|S.sq<|S.cT U (decide_eq_true (by omega))<|UW.skip<|UQ.then<|S.sq<|UW.block<|Q.rg<|S.qu (Z.xar lF jo U U (by omega) (by omega) hk)<|Q.as U<|Q.nt<|S.rg<|Q.mv U<|Q.mv U<|S.qu (Z.DU U U (by omega))<|S.qu (Z.cv Tryz.underlying5 U U (by rw[Tryz.underlying203];rfl))<|?_
  refine Q.mv U<|S.qu (Z.DU U U (by omega))<|S.qu (Z.cv Tryz.underlying5 U U (by rw[Tryz.underlying203];rfl))<|?_
  refine Q.mv U<|S.qu (Z.DU U U (by omega))<|S.qu (Z.cv Tryz.underlying5 U U (by rw[Tryz.underlying203];rfl))<|?_
  refine Q.mv U<|S.qu (Z.cv Tryz.underlying5 U U (by rw[Tryz.underlying203];rfl))<|?_
  refine S.qu (Z.bl iK U U (bA U))<|S.dd<|D.ap 0 iK U U (by omega) U (.sl (j3 U)) (by first|omega|(simp;omega)) hap λp37=>?_
  refine Q.as U<|US.nil<|UQ.aB<|UQ.then<|S.rg<|S.qu (Z.add (r:=((j+1:Nat):Int)) U U (IntWalk.i64_in _ (by omega)))<|Q.mv U<|US.nil<|?_
  refine S.back (j+1,p37) ⟨rfl,rfl,rfl,trivial⟩ (.refl _) (by omega) (by omega)
 ·have hj8:j=8:=by omega
  subst hj8
  refine Q.rg<|Q.bi U U U<|Q.nt<|S.sq<|S.cF U (decide_eq_false (by omega))<|UW.exit<|UQ.pass<|UQ.pass<|UQ.here<|UQ.then<|Q.rg<|Q.mv U<|Q.as U<|US.gG 2 0 (rs:=bf (LM x)) U U (by omega) (by rw[List.drop_zero];exact List.take_of_length_le (by omega))<|?_
  refine Q.nt<|UW.ret<|?_
  exact bN [_] (λ_=>ak U U) (.refl _) λhd=>⟨_,hd,rfl,rfl,rfl⟩
theorem LU(b:List Int)(hb:b.length<=10000000000)(hbb:eO b)(H:Hp)(hG:AP H):au Tryz.prog 129 [.sl (bf b)] H (bz H (.sl (bf (pV b)))):=by
 have hrl:=Uj b
 refine aF (n:=10) (H0:=H) (I:=[]) Tryz.func129 (by kernel_rfl) U (by rw[Tryz.ntmps129];rfl) .nil<|?_
 refine Q.rg<|Q.as U<|Q.nt<|Q.rg<|S.dd<|D.cn U U (λ_=>Ud _)<|?_
 rintro _ _ ⟨p4,rfl,rfl⟩
 refine Q.as U<|Q.nt<|Q.rg<|Q.mv U<|Q.mv U<|S.dd<|D.coe (.cons 0 U .nil) U U (λhD=>EI W0 [] b 0 (by decide) hb (by decide) hbb (λc hc=>by cases hc) p4 _ (hG.ext U) hD)<|?_
 rintro _ _ ⟨rfl,rfl⟩
 refine Q.nt<|Q.rg<|Q.mv U<|S.dd<|D.coe (.cons 0 U .nil) U U (λhD=>Rw (wL W0 ([]++b)) (qW ([]++b)) (0+b.length) (by omega) hrl (by rw[List.nil_append];exact hbb.drop _) p4 _ (hG.ext U) hD)<|?_
 (rintro _ _ ⟨rfl,rfl⟩;rw[List.nil_append,Nat.zero_add,X6,<-LQ])
 refine Q.as U<|Q.nt<|UW.ret<|S.bK (λ_=>ak U U)<|?_
 rfl
theorem Uk(all:List Int)(x:Nat):((bf all).take (x+64)).drop x=bf (pg all x):=by
 unfold pg
 rw[AB,AJ,List.drop_take]
 congr 2;omega
theorem OI(h:W8)(all:List Int)(k:Nat):jD h all (aK 64 (k+1))=uk (jD h all (aK 64 k)) (pg all (k*64)):=by rw[eT,EH]
theorem X7(h:W8)(all:List Int):wL h all=jD h all (aK 64 (all.length/64)):=rfl
theorem Ul(b:List Int):(b++jr b.length).length=((b++jr b.length).length/64)*64:=by
 rw[List.length_append,AL]
 unfold zN
 omega
theorem GI(b:List Int)(hb:b.length<=10000000000)(hbb:eO b)(H:Hp):au Tryz.prog 73 [.sl (bf b)] H (bz H (.sl (bf (pV b)))):=by
 have hbl:=bY b
 have hbs:=kC b
 have htl:=bY (jr b.length)
 have hts:=kC (jr b.length)
 have htl2:=AL b.length
 have hz:zN b.length<64:=by unfold zN;omega
 have hall:eO (b++jr b.length):=hbb.app (LD _)
 have hdiv:=Ul b
 have hlen:(b++jr b.length).length=b.length+(jr b.length).length:=List.length_append
 have hap:(bf b).take b.length++bf (jr b.length)=bf (b++jr b.length):=by rw[List.take_of_length_le (by omega),ED]
 have hel:=bY (b++jr b.length)
 refine aF (n:=64) (H0:=H) (I:=[]) Tryz.func73 (by kernel_rfl) U (by rw[Tryz.ntmps73];rfl) .nil<|?_
 refine Q.rg<|Q.as U<|Q.nt<|Q.rg<|Q.as U<|US.kG 3 5 1 (by decide) U λp3=>Q.nt<|Q.rg<|Q.mv U<|Q.mv U<|S.dd<|D.ap 0 iK U U (by decide) U (.sl hbs) (by omega) (rws:=bf b) U λp11=>?_
 rw[Nat.zero_add,hbl]
 refine Q.as U<|Q.nt<|Q.rg<|Q.mv U<|S.qu (Z.eq (u':=.v (.int .i64 (b.length:Int))) (Z.fG bR U) (by rw[hbl]))<|?_
 refine S.qu (Z.cv Tryz.underlying107 U (IntWalk.u64_in _ (by omega)) (by rw[Tryz.underlying3];rfl))<|?_
 refine S.qu (Z.call U U (λH=>OD b.length (by omega) H))<|Q.as U<|Q.nt<|Q.rg<|Q.mv U<|Q.mv U<|S.dd<|D.ap 0 iK U U (by omega) U (.sl hts) (by omega) hap λp18=>US.gG 18 0 (rs:=bf (b++jr b.length)) U U (by omega) (by rw[List.drop_zero];exact List.take_of_length_le (by omega))<|?_
 refine Q.as U<|Q.nt<|Q.rg<|S.qu (Z.eq (u':=.sl (encR W0.l)) (Z.bl uK U U (bA U)) U)<|Q.as U<|Q.nt<|S.sq<|Q.rg<|Q.as U<|Q.nt<|UW.block<|?_
 rw[LQ]
 generalize b++jr b.length=all at hall hdiv hlen hap hel⊢
 have hals:=kC all
 refine S.loop (λk:Nat=>[(6,.v (.int .i64 ((k*64:Nat):Int))),(5,.sl (encR (jD W0 all (aK 64 k)).l)),(3,.sl (bf all))]) (λ_=>[]) (λk=>k<=all.length/64) (λk=>all.length/64-k) 0 (Nat.zero_le _) ⟨rfl,rfl,rfl,trivial⟩ (List.nil_sublist _)<|?_
 intro k hk
 by_cases hlt:k<all.length/64
 ·have hcl:=LK all (k*64)
  have hco:=Qa hall (k*64)
  refine S.sq<|Q.rg<|Q.mv U<|Q.mv U<|S.qu (Z.fG bR U)<|Q.bi U U U<|Q.nt<|S.cT U (decide_eq_true (by omega))<|UW.skip<|UQ.then<|S.sq<|UW.block<|S.rg<|Q.mv U<|Q.mv U<|Q.mv U<|Q.mv U<|S.qu (Z.add (r:=((k*64+64:Nat):Int)) U U (IntWalk.i64_in _ (by omega)))<|S.qu (Z.Vk bR U hals (.both U U) (by omega) (by omega) (Uk all (k*64)))<|S.qu (Z.eq (u':=.sl (encR (jD W0 all (aK 64 (k+1))).l)) (Z.call U U (λH=>Oq (jD W0 all (aK 64 k)) (pg all (k*64)) (by omega) hco H)) (by rw[OI]))<|?_
  refine Q.as U<|US.nil<|UQ.aB<|UQ.then<|S.rg<|Q.mv U<|S.qu (Z.add (r:=(((k+1)*64:Nat):Int)) U U (by rw[IntWalk.i64_in _ (by omega)];omega))<|?_
  refine Q.as U<|US.nil<|?_
  refine S.back (k+1) ⟨rfl,rfl,rfl,trivial⟩ (.refl _) (by omega) (by omega)
 ·have hkq:k=all.length/64:=by omega
  subst hkq
  rw[<-X7]
  generalize wL W0 all=x
  refine S.sq<|Q.rg<|Q.mv U<|Q.mv U<|S.qu (Z.fG bR U)<|Q.bi U U U<|Q.nt<|S.cF U (decide_eq_false (by omega))<|UW.exit<|UQ.pass<|UQ.pass<|UQ.here<|UQ.then<|Q.rg<|Q.as U<|US.kG 7 5 1 (by decide) U λp7=>Q.nt<|S.sq<|Q.rg<|Q.as U<|Q.nt<|UW.block<|S.loop (λj:Nat×Nat=>[(8,.v (.int .i64 (j.1:Int))),(7,.own j.2 0 (4*j.1) 1),(5,.sl (encR x.l))]) (λj=>[(j.2,.row 5 1 (bf (AQ x j.1)))]) (λj=>j.1<=8) (λj=>8-j.1) (0,p7) (Nat.zero_le _) ⟨rfl,rfl,rfl,trivial⟩ (.refl _)<|?_
  rintro⟨j,r⟩ hj
  dsimp only at hj⊢
  have hrl:=bY (AQ x j)
  rw[zy x j hj] at hrl
  by_cases hlt:j<8
  ·have hk:=lG x.l j hlt
   have hap:=LP x j hlt
   refine S.sq<|Q.rg<|Q.mv U<|Q.bi U U U<|Q.nt<|S.cT U (decide_eq_true (by omega))<|UW.skip<|UQ.then<|S.sq<|UW.block<|?_
   refine' UW.bG (by kernel_rfl) [0,0,0,6,14,30,62,0,0,384,896,1920,3968,0,0,24576,57344,122880,253952,0,0,1572864,3670016,7864320,16777214,33554431,67108863] [some 37,some 38,some 39,some 40,some 41,some 42,some 43,some 44,some 45,some 46,some 47,some 48,some 49,some 50,some 51,some 52,some 53,some 54,some 55,some 56,some 57,some 58,some 59,some 60,some 61,none,none] [some (37,_),some (38,_),some (39,_),some (40,_),some (41,_),some (42,_),some (43,_),some (44,_),some (45,_),some (46,_),some (47,_),some (48,_),some (49,_),some (50,_),some (51,_),some (52,_),some (53,_),some (54,_),some (55,_),some (56,_),some (57,_),some (58,_),some (59,_),some (60,_),some (61,_),none,none] [25,26] [4,10,16,22] U (by decide) (by decide) (M.free (by decide) U U ?Et (M.free (by decide) U U ?Eu (M.free (by decide) U U ?Ew (M.free (by decide) U U ?Ex (M.held (by decide) U U ?Ey (M.free (by decide) U U ?Ez (M.free (by decide) U U ?EA (M.free (by decide) U U ?EB (M.free (by decide) U U ?EC (M.free (by decide) U U ?Ot (M.held (by decide) U U ?Jw (M.free (by decide) U U ?Jy (M.free (by decide) U U ?Jz (M.free (by decide) U U ?JA (M.free (by decide) U U ?JB (M.free (by decide) U U ?JC (M.held (by decide) U U ?JD (M.free (by decide) U U ?JE (M.free (by decide) U U ?JF (M.free (by decide) U U ?JG (M.free (by decide) U U ?JH (M.free (by decide) U U ?JI (M.held (by decide) U U ?JJ (M.free (by decide) U U ?JK (M.free (by decide) U U ?JL (M.skip (M.skip M.nil))))))))))))))))))))))))))) ?Ua
   case Et=>(intro _;exact Z.mv rfl)
   case Eu=>(intro _;exact Z.mv rfl)
   case Ew=>(intro _;exact Z.mv rfl)
   case Ex=>(intro _;exact Z.ia iB rfl rfl (by omega) hk (by rfl))
   case Ey=>exact Z.fE iL rfl
   case Ez=>(intro _;exact Z.DU rfl rfl (by omega))
   case EA=>(intro _;exact Z.cv Tryz.underlying5 rfl rfl (by rw[Tryz.underlying108];rfl))
   case EB=>(intro _;exact Z.mv rfl)
   case EC=>(intro _;exact Z.mv rfl)
   case Ot=>(intro _;exact Z.ia iB rfl rfl (by omega) hk (by rfl))
   case Jw=>exact Z.fE iL rfl
   case Jy=>(intro _;exact Z.DU rfl rfl (by omega))
   case Jz=>(intro _;exact Z.cv Tryz.underlying5 rfl rfl (by rw[Tryz.underlying108];rfl))
   case JA=>(intro _;exact Z.mv rfl)
   case JB=>(intro _;exact Z.mv rfl)
   case JC=>(intro _;exact Z.ia iB rfl rfl (by omega) hk (by rfl))
   case JD=>exact Z.fE iL rfl
   case JE=>(intro _;exact Z.DU rfl rfl (by omega))
   case JF=>(intro _;exact Z.cv Tryz.underlying5 rfl rfl (by rw[Tryz.underlying108];rfl))
   case JG=>(intro _;exact Z.mv rfl)
   case JH=>(intro _;exact Z.mv rfl)
   case JI=>(intro _;exact Z.ia iB rfl rfl (by omega) hk (by rfl))
   case JJ=>exact Z.fE iL rfl
   case JK=>(intro _;exact Z.cv Tryz.underlying5 rfl rfl (by rw[Tryz.underlying108];rfl))
   case JL=>(intro _;exact Z.bl iK rfl rfl (bA rfl))
   refine CH.cons U U (by decide)<|D.ap 0 iK U U (by omega) U (.sl (j3 U)) (by first|omega|(simp;omega)) hap λp62=>?_
   refine CH.cons U U (by decide)<|D.qu (Z.as U)<|CH.nil<|?_
   simp only[app,bV]
   refine UQ.aB<|UQ.then<|S.rg<|Q.mv U<|S.qu (Z.add (r:=((j+1:Nat):Int)) U U (IntWalk.i64_in _ (by omega)))<|Q.as U<|US.nil<|?_
   refine S.back (j+1,p62) ⟨rfl,rfl,rfl,trivial⟩ (.refl _) (by omega) (by omega)
  ·have hj8:j=8:=by omega
   subst hj8
   refine S.sq<|Q.rg<|Q.mv U<|Q.bi U U U<|Q.nt<|S.cF U (decide_eq_false (by omega))<|UW.exit<|UQ.pass<|UQ.pass<|UQ.here<|UQ.then<|Q.rg<|Q.mv U<|Q.as U<|US.gG 2 0 (rs:=bf (LM x)) U U (by omega) (by rw[List.drop_zero];exact List.take_of_length_le (by omega))<|?_
   refine Q.nt<|UW.ret<|S.bK (λ_=>ak U U)<|?_
   rfl
end Go.Proofs.YtonpfomjoiaacaaGreatDoor
end
