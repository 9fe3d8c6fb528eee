/- A part of the proof. -/
import Derived.Test.YtbooeongacgnbaaGreatDoorMw28
import Derived.Test.YtbooeongacgnbaaGreatDoorMw36
import Derived.Test.YtbooeongacgnbaaGreatDoorMw35
import Derived.Test.YtbooeongacgnbaaGreatDoorMw10
set_option maxRecDepth 100000
set_option maxHeartbeats 4000000
set_option linter.unusedSectionVars false
set_option linter.unusedVariables false
set_option linter.unusedSimpArgs false
section
namespace Go.gW
open Go Go.RowKit
section
variable [Rd]
def FQ:List Nat->(Nat->Prop)->Prop
 |[],_=>True
 |i::r,f=>f i/\FQ r f
theorem Ip{f:Nat->Prop}:∀{l:List Nat},FQ l f->∀{i},i∈l->f i
 |i::r,h,j,hj=>by
  rcases List.mem_cons.1 hj with rfl|hj
  ·exact h.1
  ·exact Ip h.2 hj
def XX(B rem:List Nat):List Nat:=rem.filter λi=>rem.all λc=>!(B.getD i 0).testBit c
section
variable {P:Program} {n:Nat} {ol:List Oper} {Q:oo->Sl->Hp->Prop} {H0:Hp} {B k1:List Nat} {pre:List (Option (Nat×AV))} {l cr:List (Nat×AV)} {M keep:List (Nat×Ob)} {k c d:Nat} {rem r is:List Nat} {o:Oper}
def nk(P:Program)(n:Nat)(ol:List Oper)(Q:oo->Sl->Hp->Prop)(H0:Hp)(B:List Nat)(pre:List (Option (Nat×AV)))(l:List (Nat×AV))(keep:List (Nat×Ob)):Nat->List Nat->List (Nat×AV)->List (Nat×Ob)->Prop
 |0,_,cr,M=>Has keep M/\UQ Q H0 .normal (cr++((pre.filterMap id).reverse++l)) M
 |k+1,rem,cr,M=>Has keep M/\FQ (XX B rem) λi=>∃o,ol[i]? =some o/\(∀d,o.dst=some d->d<n)/\(aK H0 M->Does P n ol.toArray o (gz (ow B (dstsOf ol) pre cr l i)) (aB H0 M) (λu H'=>∃aL,H'=aB H0 aL/\aK H0 aL/\
   nk P n ol Q H0 B pre l keep k (rem.erase i) (match o.dst with|some d=>(d,u)::cr|none=>cr) aL))
def jr(P:Program)(n:Nat)(ol:List Oper)(Q:oo->Sl->Hp->Prop)(H0:Hp)(B:List Nat)(pre:List (Option (Nat×AV)))(l:List (Nat×AV))(keep:List (Nat×Ob))(k:Nat)(rem:List Nat)(cr:List (Nat×AV))(M:List (Nat×Ob))(i:Nat):Prop:=∃o,ol[i]? =some o/\(∀d,o.dst=some d->d<n)/\(aK H0 M->Does P n ol.toArray o (gz (ow B (dstsOf ol) pre cr l i)) (aB H0 M) (λu H'=>∃aL,H'=aB H0 aL/\aK H0 aL/\
     nk P n ol Q H0 B pre l keep k (rem.erase i) (match o.dst with|some d=>(d,u)::cr|none=>cr) aL))
theorem nk.has:∀{k:Nat},nk P n ol Q H0 B pre l keep k rem cr M->Has keep M
 |0,h=>h.1
 |_+1,h=>h.1
theorem UW.XY{ND:Nat}(hm:P.follows .mixedOrders=true)(kp:List Nat)(B:List Nat)(ds:List (Option Nat))(pre:List (Option (Nat×AV)))(cs k1:List Nat)(hpre:(pre.map λo=>o.map (·.1))=ds)(he:kR B ol 0=true)
 (hch:zT B ds cs k1 (dstsOf ol)=true) (hq:I P n ol H0 M B k1 pre l (gW.pick M kp) pre 0) (hk:nk P n ol Q H0 B pre l (gW.pick M kp) cs.length cs [] M):UW P n Q H0 (.region ND ol.toArray true) l M:=by
 subst hpre
 refine UW.Ti (R:=λrem cr ob=>∃vo,rem.Perm vo/\nk P n ol Q H0 B pre l (gW.pick M kp) vo.length vo cr ob) hm B pre cs k1 he (jk.Z5 hch) ⟨?_,?_,?_⟩ hq ⟨cs,.refl _,hk⟩
 ·rintro rem cr ob ⟨_,_,h⟩;exact h.has
 ·rintro cr ob ⟨vo,hp,h⟩
  have e:vo=[]:=hp.symm.eq_nil
  subst e
  exact h.2
 ·rintro rem cr ob i ⟨vo,hp,h⟩ hi hno
  have hi':=hp.mem_iff.1 hi
  obtain⟨k,hk⟩:∃k,vo.length=k+1:=⟨vo.length-1,by have:=List.length_pos_of_mem hi';omega⟩
  rw[hk] at h
  obtain⟨o,g1,g2,g3⟩:=Ip h.2 (i:=i) (List.mem_filter.2 ⟨hi',List.all_eq_true.2 λc hc=>by rw[hno c (hp.mem_iff.2 hc)];rfl⟩)
  refine⟨o,g1,g2,λhd=>(g3 hd).mono ?_⟩
  rintro u H' ⟨aL,e1,e2,e3⟩
  refine⟨aL,e1,e2,vo.erase i,hp.erase i,?_⟩
  rw[List.length_erase_of_mem hi',hk]
  exact e3
theorem nk.nil(h:UQ Q H0 .normal (app cr (bV pre l)) M)(hs:Has keep M:=by exact .n):nk P n ol Q H0 B pre l keep 0 rem cr M:=by
 rw[I5,zn] at h;exact⟨hs,h⟩
theorem nk.node(is:List Nat)(he:XX B rem=is)(h:FQ is (jr P n ol Q H0 B pre l keep k rem cr M))(hs:Has keep M:=by exact .n):nk P n ol Q H0 B pre l keep (k+1) rem cr M:=by
 subst he;exact⟨hs,h⟩
theorem jr.nil{f:Nat->Prop}:FQ [] f:=trivial
theorem jr.cons{vo:List Nat}(ho:ol[c]? =some o)(hd:o.dst=some d)(hn:d<n)(he:rem.erase c=vo)(h:DS P n ol.toArray H0 o (ow B (dstsOf ol) pre cr l c) M (λu aL=>nk P n ol Q H0 B pre l keep k vo ((d,u)::cr) aL))(t:FQ r (jr P n ol Q H0 B pre l keep k rem cr M)):FQ (c::r) (jr P n ol Q H0 B pre l keep k rem cr M):=by
 subst he
 exact⟨⟨o,ho,λd' hd'=>(by rw[hd] at hd';cases hd';exact hn),by rw[hd];exact h⟩,t⟩
theorem jr.aV{vo:List Nat}(ho:ol[c]? =some o)(hd:o.dst=none)(he:rem.erase c=vo)(h:DS P n ol.toArray H0 o (ow B (dstsOf ol) pre cr l c) M (λ_ aL=>nk P n ol Q H0 B pre l keep k vo cr aL))(t:FQ r (jr P n ol Q H0 B pre l keep k rem cr M)):FQ (c::r) (jr P n ol Q H0 B pre l keep k rem cr M):=by
 subst he
 exact⟨⟨o,ho,λd' hd'=>(by rw[hd] at hd';cases hd'),by rw[hd];exact h⟩,t⟩
end
section
variable {P:Program} {n:Nat} {T:Sl} {H:Hp} {ops:Array Oper} {o:Oper} {K:AV->Hp->Prop}
theorem xy{g:Operand->AV}{a:Act}{w:World}{ρ:fK}{t e sz b:Nat}{len:Nat}{parts:Array (Nat×Operand)}(hr:∀x:Operand,dL (bK ρ H) ρ w (g x) (a.eval x))(ho:o.op=.buildSlice t len parts)(ht:kC P t e sz b)(hl:len*sz<=2^24)
 (hp:parts.toList.map (·.1)=List.range len) (hc:∀p∈parts.toList,(flat (g p.2)).all cK=true/\(flat (g p.2)).length=sz):
 ∃cells,(execOp a.eval o).run P w=.ok (.value (.slice (some ⟨w.heap.size,0,none⟩) len len)) (w.alloc (.cells (List.toArray cells) e))/\cells.length=len*sz/\aZ (bK ρ H) ρ w (parts.toList.map λp=>flat (g p.2)).flatten cells:=by
 obtain⟨z,hz,hzs,hz1⟩:=ht.zero
 have hpl:parts.toList.length=len:=by have:=congrArg List.length hp;simpa using this
 by_cases h0:len=0
 ·subst h0
  have hpe:parts= #[]:=Array.toList_eq_nil_iff.1 (List.eq_nil_of_length_eq_zero hpl)
  subst hpe
  exact⟨[],mq ho ht.sl,by simp,dW⟩
 have hne:len*sz≠0:=by
  have:=ht.sz
  exact Nat.mul_ne_zero h0 (by omega)
 obtain⟨zs,I1⟩:∃zs:List Value,((Array.range (len*sz)).map (λi=>z.cells[i % z.cells.size]!))=zs.toArray:=⟨_,(Array.toArray_toList).symm⟩
 have hzl:zs.length=len*sz:=by have:=congrArg Array.size I1;simpa using this.symm
 have hzc:zs.all (·.oneCell')=true:=by
  rw[List.all_eq_true]
  intro y hy
  have hy2:y∈zs.toArray:=by simpa using hy
  rw[<-I1] at hy2
  obtain⟨i,_,rfl⟩:=Array.mem_map.1 hy2
  have hlt:i % z.cells.size<z.cells.size:=Nat.mod_lt _ (by rw[hzs];exact ht.sz)
  rw[getElem!_pos z.cells _ hlt]
  exact List.all_eq_true.1 hz1 _ (by simp)
 obtain⟨cells',e1,e2⟩:=vG (ok:=bK ρ H) (ρ:=ρ) (w:=w) (λi=>some (i*sz,sz)) (parts.toList.map λp=>(p.1,a.eval p.2)) (parts.toList.map λp=>g p.2) ((List.range len).map (·*sz)) (zs.map .v) zs (by simp) (by simp[hpl]) (λj p u off h1 h2 h3=>by
  rw[List.getElem?_map] at h1 h2 h3
  cases hj:parts.toList[j]? with
  |none=>rw[hj] at h1;cases h1
  |some q=>
   rw[hj] at h1 h2
   cases h1;cases h2
   have hjl:j<len:=by rw[<-hpl];exact(List.getElem?_eq_some_iff.1 hj).1
   rw[List.getElem?_range hjl] at h3
   cases h3
   have hq:q.1=j:=by
    have:=congrArg (λl=>l[j]?) hp
    simp only[List.getElem?_map,hj,List.getElem?_range hjl,Option.map_some] at this
    exact Option.some.inj this
   obtain⟨b1,b2⟩:=hc q (List.mem_of_getElem? hj)
   refine⟨hr q.2,b1,by simp only[hq,b2],?_⟩
   rw[b2,List.length_map,hzl,<-Nat.succ_mul]
   exact Nat.mul_le_mul_right _ hjl) (kz zs hzc)
 have e3:=pF sz ((parts.toList.map λp=>g p.2).map flat) [] (zs.map .v) 0 (by simp) (λcs hcs=>by
  obtain⟨u,hu,rfl⟩:=List.mem_map.1 hcs
  obtain⟨p,hp',rfl⟩:=List.mem_map.1 hu
  exact(hc p hp').2) (by simp[hzl,hpl])
 have e4:((parts.toList.map λp=>g p.2).map flat).length=len:=by simp[hpl]
 rw[List.nil_append,List.nil_append,e4,<-List.range_eq_range'] at e3
 rw[e3,List.map_map] at e2
 refine⟨cells',nJ ho ht.sl hz hl hne (by rw[I1];exact e1),?_,e2⟩
 rw[<-e2.1,dB sz _ (λcs hcs=>by
  obtain⟨p,hp',rfl⟩:=List.mem_map.1 hcs
  exact(hc p hp').2),List.length_map,hpl]
theorem Does.BA{t e sz b:Nat}{len:Nat}{parts:Array (Nat×Operand)}{g:Operand->AV}(hgr:∀{ok:Nat->Prop} {ρ:fK} {w:World} {a:Act},(∀x:Operand,dL ok ρ w (ev T x) (a.eval x))->∀x:Operand,dL ok ρ w (g x) (a.eval x))(hg:o.guard=none)(ho:o.op=.buildSlice t len parts)(ht:kC P t e sz b)(hl:len*sz<=2^24)
 (hp:parts.toList.map (·.1)=List.range len) (hc:∀p∈parts.toList,(flat (g p.2)).all cK=true/\(flat (g p.2)).length=sz)
 (hk:K (.sl (parts.toList.map λp=>flat (g p.2))) H):Does P n ops o T H K:=by
 intro a w ρ h1 h2 h3 h4 N Q hN
 rw[if_pos (by simp[Region.wanted,hg])]
 have hr:=hgr (iA h4)
 obtain⟨cells,hrun,hcl,hrep⟩:=xy hr ho ht hl hp hc
 have hpl:parts.toList.length=len:=by have:=congrArg List.length hp;simpa using this
 have hm:len<=maxLen:=by
  have:=Nat.le_mul_of_pos_right len ht.sz
  simp only[maxLen];omega
 have hb:=iF w (.cells (List.toArray cells) e)
 have hE:Ext ρ H w ρ H (w.alloc (.cells (List.toArray cells) e)):=⟨hb.os,hb.tape,hb.output,hb.size,λk hk _=>hb.block k hk,λ_ h=> .inl h,λ_ _ h=>h⟩
 have hR:dG ρ H (w.alloc (.cells (List.toArray cells) e)):=by
  refine⟨λid ob hi=>?_,h3.apart,h3.room,λid v k a b=>Nat.lt_of_lt_of_le (h3.lt id v k a b) hb.size⟩
  obtain⟨v,e1,e2⟩:=h3.ob id ob hi
  exact⟨v,e1,e2.ext hE (λk hk=>hb.block k (h3.lt id v k e1 hk))⟩
 unfold Oper.wp
 rw[hrun]
 refine hN _ _ ρ _ H hR hE ?_ hk
 have Gh:=hE.cells hrep
 have hlen:∀cs∈(parts.toList.map λp=>flat (g p.2)),cs.length=sz:=λcs hcs=>by
  obtain⟨p,hp',rfl⟩:=List.mem_map.1 hcs
  exact(hc p hp').2
 have BM:(parts.toList.map λp=>flat (g p.2)).length=len:=by rw[List.length_map,hpl]
 have hnew:bK ρ H w.heap.size:=by
  rintro⟨id,ob,v,_,b,c⟩
  have:=h3.lt id v _ b c
  omega
 have hsl:=dL.sl (ok:=bK ρ H) (ρ:=ρ) (w:=w.alloc (.cells (List.toArray cells) e)) (parts.toList.map λp=>flat (g p.2)) ⟨w.heap.size,0,none⟩ len sz (λi j=>cells.getD (i*sz+j) default) (by omega) hm (λ_=>⟨hnew,by rw[size_alloc];simp⟩) hlen (λi cs j hi hj=>by
  have hj':j<sz:=by rw[<-hlen cs (List.mem_of_getElem? hi)];exact hj
  have hg:=fw sz ht.sz _ hlen i cs j hi hj'
  rw[List.getElem?_eq_getElem hj] at hg
  obtain⟨y,hy,hy2,hy3⟩:=iI Gh hg
  have e1:cells.getD (i*sz+j) default=y:=by rw[List.getD_eq_getElem?_getD,hy];rfl
  rw[add_plain,e1]
  refine⟨?_,hy3⟩
  simp only[World.cell?,heap_alloc_new]
  simpa using hy) (λi cs j u hi hj=>by
  have hj':j<sz:=by rw[<-hlen cs (List.mem_of_getElem? hi)];exact(List.getElem?_eq_some_iff.1 hj).1
  have hg:=fw sz ht.sz _ hlen i cs j hi hj'
  rw[hj] at hg
  obtain⟨y,hy,hy2,hy3⟩:=iI Gh hg
  have e1:cells.getD (i*sz+j) default=y:=by rw[List.getD_eq_getElem?_getD,hy];rfl
  rw[e1];exact hy2)
 rw[BM] at hsl
 exact hsl
def Zg(T:Sl):Operand->AV
 | .const (.agg vs)=> .agg (vs.toList.map .v)
 |x=>ev T x
theorem Sk{ok:Nat->Prop}{ρ:fK}{w:World}{a:Act}(h:∀x:Operand,dL ok ρ w (ev T x) (a.eval x))(x:Operand):dL ok ρ w (Zg T x) (a.eval x):=by
 unfold Zg
 split
 ·rename_i vs
  exact He (.inr ⟨vs.toList,by simp[Act.eval],rfl⟩)
 ·exact h x
end
section
variable {P:Program} {n:Nat} {ops:Array Oper} {H0:Hp} {l:List (Nat×AV)} {M:List (Nat×Ob)} {dst:Option Nat} {ty:TypeId} {ps:String} {af:Array Edge} {t e sz b:Nat}
theorem Z.blk{vs:Array Value}{cells:List AV}(ht:kC P t e sz b)(hcs:vs.toList.map AV.v=cells)(hc:cells.all cK=true)(hl:cells.length=sz)(hs:1*sz<=2^24:=by decide):QS P n ops H0 ⟨dst,.buildSlice t 1 #[(0,.const (.agg vs))],ty,ps,af,none⟩ l M (.sl [cells]):=by
 subst hcs
 intro hd
 refine Does.BA (g:=Zg (gz l)) (λh=>Sk h) U U ht hs U (λp hp=>?_) ⟨rfl,rfl⟩
 rw[List.mem_singleton.1 hp]
 exact⟨hc,hl⟩
end
section
variable {P:Program} {n:Nat} {ops:Array Oper} {H0:Hp} {l:List (Nat×AV)} {M rq ru n0:List (Nat×Ob)} {us dD:List AV} {f:Nat} {cc:Operand} {args:Array Operand} {at_:Array TypeId} {dst:Option Nat} {ty:TypeId} {ps:String} {af:Array Edge} {K:AV->List (Nat×Ob)->Prop} {r:AV}
theorem D.Sm(hpk:vN M rq ru)(hc:bA l cc=some (.lW f dD))(ha:gD l args.toList=some us)(h:∀G,Sub H0 G->aK G rq->F P f (us++dD) (aB G rq) (λu H'=>∃news,aK G news/\H'=aB G news/\(u=r/\news=n0)))(hk:K r (n0++ru)):
 DS P n ops H0 ⟨dst,.call {callee:=.value cc,args:=args,argTypes:=at_},ty,ps,af,none⟩ l M K:=
 D.oJ hpk hc ha h (λu news hh=>by rw[hh.1,hh.2];exact hk)
end
end
end Go.gW
end
section
namespace Go.Proofs.YtbooeongacgnbaaGreatDoor
open Go Go.gW Go.RowKit
def Nr(pv r m:Nat):Nat×Ob:=(pv,.box 27 [.v (.int .i64 4),.v (.int .i64 0),.v (.string ⟨#[]⟩),.v (.slice none 0 0),.own r 0 m 5])
def Ns(r:Nat)(vs:List V):Nat×Ob:=(r,.row 27 5 (bE vs))
theorem KE(vs:List V)(w:V)(m:Nat)(hm:vs.length=m)(z:List AV):(bE vs++[z]).set m (aN w)=bE (vs++[w]):=by
 subst hm
 rw[dY,dY,List.map_append,List.set_append_right _ _ (by simp)]
 simp
def XZ(p pv:Nat)(s:ByteArray)(vs:List V)(m:Nat)(Ψ:V->AV->Nat->Nat->Prop)(G:Hp)(u:AV)(H':Hp):Prop:=∃news,aK G news/\H'=aB G news/\∃w q1 d1 r',Ψ w u q1 d1/\news=[Ns r' (vs++[w]),bN p s q1 d1,Nr pv r' (m+1)]
def X0(p:Nat)(s:ByteArray)(Ψ:V->AV->Nat->Nat->Prop)(G:Hp)(u:AV)(H':Hp):Prop:=∃news,aK G news/\H'=aB G news/\∃w x q1 d1,Ψ w x q1 d1/\u=.dH [.agg (aN w),x]/\news=[bN p s q1 d1]
theorem Pm(p pv r:Nat)(s:ByteArray)(q d m:Nat)(vs:List V)(hm:vs.length=m)(BM:m<=1000000)(Ψ:V->AV->Nat->Nat->Prop)(G:Hp){ga gb:Addr}(hG:bO ga gb G)
 (hv:∀G,bO ga gb G->aK G [bN p s q d]->F Tryz.prog 55 [.ptr p 0] (aB G [bN p s q d]) (X0 p s Ψ G)) (hd:aK G [Ns r vs,bN p s q d,Nr pv r m]):F Tryz.prog 79 [.ptr p 0,.ptr pv 0] (aB G [Ns r vs,bN p s q d,Nr pv r m]) (XZ p pv s vs m Ψ G):=by
 have hvl:=aS vs
 have hz:m<=(bE vs).length:=by omega
 have hpush:∀z:List AV,(bE vs).take m++[z]=bE vs++[z]:=λz=>by rw[List.take_of_length_le (by omega)]
 have hlast:=λw z=>KE vs w m hm z
 have hrows:∀z:List AV,z.length=5->∀cs∈bE vs++[z],cs.length=5:=λz hz cs h=>by
  rcases List.mem_append.1 h with h|h
  ·rw[dY] at h
   obtain⟨v,_,rfl⟩:=List.mem_map.1 h
   exact ak v
  ·rw[List.mem_singleton.1 h];exact hz
 unfold Ns bN Nr at hd⊢
 refine aA (n:=24) (H0:=G) (M:=[(r,.row 27 5 (bE vs)),(p,.box 60 (gu s q d)),(pv,.box 27 [.v (.int .i64 4),.v (.int .i64 0),.v (.string ⟨#[]⟩),.v (.slice none 0 0),.own r 0 m 5])]) Tryz.func79 (by kernel_rfl) U (by rw[Tryz.ntmps79];rfl) hd<|?_
 refine Q.rg<|Q.as U<|Q.nt<|Q.rg<|Q.mv U<|S.dd<|D.oJ (.cons 1 U .nil) U U (λH hS hD=>hv H (hG.mono hS) hD)<|?_
 (rintro _ _ ⟨⟨v0,v1,v2,v3,v4⟩,x,q1,d1,hΨ,rfl,rfl⟩;unfold bN)
 refine Q.mv U<|S.qu (Z.ex U U)<|S.qu (Z.ex U U)<|S.dd<|D.al z27 U U U λp5=>S.s<|D.st 0 ay U U U U U U U U λ_=>Q.as U<|Q.nt<|?_
 refine S.Uf (λr':Nat=>[(6,x)]) (λr'=>[(r',.row 27 5 (bE (vs++[.mk v0 v1 v2 v3 v4]))),(p,.box 60 (gu s q1 d1)),(pv,.box 27 [.v (.int .i64 4),.v (.int .i64 0),.v (.string ⟨#[]⟩),.v (.slice none 0 0),.own r' 0 (m+1) 5])]) (λ_=>True) ?_ (λr' _=>?_)
 ·refine' UW.XY (by kernel_rfl) [] [0,1,3,7,0,15,0,127,255,511,255,1279,3327] [some 12,some 13,some 14,some 15,some 16,some 17,some 18,none,none,none,none,none,none] [some (12,_),some (13,_),some (14,_),some (15,_),some (16,_),some (17,_),some (18,_),none,none,none,none,none,none] [7,8,9,10,11,12] [3,4] U (by decide) (by decide) (I.free (by decide) U U ?q0 (I.free (by decide) U U ?q1 (I.free (by decide) U U ?q2 (I.held (by decide) U U ?q3 (I.held (by decide) U U ?q4 (I.free (by decide) U U ?q5 (I.free (by decide) U U ?q6 (I.skip (I.skip (I.skip (I.skip (I.skip (I.skip I.nil))))))))))))) ?k
  case q0=>(intro _;exact Z.mv rfl)
  case q1=>(intro _;exact Z.iC rfl)
  case q2=>(intro _;exact Z.fa rfl rfl)
  case q3=>exact Z.dQ 3 dm rfl rfl rfl
  case q4=>exact Z.bg 0 ay rfl rfl rfl
  case q5=>(intro _;exact Z.Co bR rfl)
  case q6=>(intro _;exact Z.blk iw rfl rfl rfl)
  refine nk.node [7] (by decide)<|?_
  refine jr.cons U U (by decide) U (D.ap 2 iw U U (by omega) U (.sl (by intro cs h;cases List.mem_singleton.1 h;rfl)) (by simp only[List.length_singleton];omega) (hpush _) (λNp=>?_)) ?_
  ·skip
   refine nk.node [8,10] (by decide)<|?_
   refine jr.cons U U (by decide) U (D.qu (Z.io (off:=0) (i:=(m:Int)) bR U U (by omega) (by show(m:Int)<((m+1:Nat):Int);omega)) ?_) ?_
   ·skip
    refine nk.node [9,10] (by decide)<|?_
    refine jr.aV U U U (D.PT 0 (m:=m) ay U U (by omega) (by rw[List.length_append];show m<_+1;omega) U U U U (hrows _ U) (hlast (.mk v0 v1 v2 v3 v4) _) (λ_=>?_)) ?_
    ·skip
     refine nk.node [10] (by decide)<|?_
     refine jr.cons U U (by decide) U (D.qu (Z.iC U) ?_) ?_
     ·skip
      refine nk.node [11] (by decide)<|?_
      refine jr.cons U U (by decide) U (D.qu (Z.fa U U) ?_) ?_
      ·skip
       refine nk.node [12] (by decide)<|?_
       refine jr.aV U U U (D.st 3 dm U U U U U U U U (λ_=>?_)) ?_
       ·skip
        refine nk.nil<|?_
        simp only[app,bV]
        exact S.kY Np ⟨rfl,trivial⟩ (.cons_cons _ (.cons _ (.refl _))) trivial
       exact jr.nil
      exact jr.nil
     exact jr.nil
    refine jr.cons U U (by decide) U (D.qu (Z.iC U) ?_) ?_
    ·skip
     refine nk.node [9,11] (by decide)<|?_
     refine jr.aV U U U (D.PT 0 (m:=m) ay U U (by omega) (by rw[List.length_append];show m<_+1;omega) U U U U (hrows _ U) (hlast (.mk v0 v1 v2 v3 v4) _) (λ_=>?_)) ?_
     ·skip
      refine nk.node [11] (by decide)<|?_
      refine jr.cons U U (by decide) U (D.qu (Z.fa U U) ?_) ?_
      ·skip
       refine nk.node [12] (by decide)<|?_
       refine jr.aV U U U (D.st 3 dm U U U U U U U U (λ_=>?_)) ?_
       ·skip
        refine nk.nil<|?_
        simp only[app,bV]
        exact S.kY Np ⟨rfl,trivial⟩ (.cons_cons _ (.cons _ (.refl _))) trivial
       exact jr.nil
      exact jr.nil
     refine jr.cons U U (by decide) U (D.qu (Z.fa U U) ?_) ?_
     ·skip
      refine nk.node [9,12] (by decide)<|?_
      refine jr.aV U U U (D.PT 0 (m:=m) ay U U (by omega) (by rw[List.length_append];show m<_+1;omega) U U U U (hrows _ U) (hlast (.mk v0 v1 v2 v3 v4) _) (λ_=>?_)) ?_
      ·skip
       refine nk.node [12] (by decide)<|?_
       refine jr.aV U U U (D.st 3 dm U U U U U U U U (λ_=>?_)) ?_
       ·skip
        refine nk.nil<|?_
        simp only[app,bV]
        exact S.kY Np ⟨rfl,trivial⟩ (.cons_cons _ (.cons _ (.refl _))) trivial
       exact jr.nil
      refine jr.aV U U U (D.st 3 dm U U U U U U U U (λ_=>?_)) ?_
      ·skip
       refine nk.node [9] (by decide)<|?_
       refine jr.aV U U U (D.PT 0 (m:=m) ay U U (by omega) (by rw[List.length_append];show m<_+1;omega) U U U U (hrows _ U) (hlast (.mk v0 v1 v2 v3 v4) _) (λ_=>?_)) ?_
       ·skip
        refine nk.nil<|?_
        simp only[app,bV]
        exact S.kY Np ⟨rfl,trivial⟩ (.cons_cons _ (.cons _ (.refl _))) trivial
       exact jr.nil
      exact jr.nil
     exact jr.nil
    exact jr.nil
   refine jr.cons U U (by decide) U (D.qu (Z.iC U) ?_) ?_
   ·skip
    refine nk.node [8,11] (by decide)<|?_
    refine jr.cons U U (by decide) U (D.qu (Z.io (off:=0) (i:=(m:Int)) bR U U (by omega) (by show(m:Int)<((m+1:Nat):Int);omega)) ?_) ?_
    ·skip
     refine nk.node [9,11] (by decide)<|?_
     refine jr.aV U U U (D.PT 0 (m:=m) ay U U (by omega) (by rw[List.length_append];show m<_+1;omega) U U U U (hrows _ U) (hlast (.mk v0 v1 v2 v3 v4) _) (λ_=>?_)) ?_
     ·skip
      refine nk.node [11] (by decide)<|?_
      refine jr.cons U U (by decide) U (D.qu (Z.fa U U) ?_) ?_
      ·skip
       refine nk.node [12] (by decide)<|?_
       refine jr.aV U U U (D.st 3 dm U U U U U U U U (λ_=>?_)) ?_
       ·skip
        refine nk.nil<|?_
        simp only[app,bV]
        exact S.kY Np ⟨rfl,trivial⟩ (.cons_cons _ (.cons _ (.refl _))) trivial
       exact jr.nil
      exact jr.nil
     refine jr.cons U U (by decide) U (D.qu (Z.fa U U) ?_) ?_
     ·skip
      refine nk.node [9,12] (by decide)<|?_
      refine jr.aV U U U (D.PT 0 (m:=m) ay U U (by omega) (by rw[List.length_append];show m<_+1;omega) U U U U (hrows _ U) (hlast (.mk v0 v1 v2 v3 v4) _) (λ_=>?_)) ?_
      ·skip
       refine nk.node [12] (by decide)<|?_
       refine jr.aV U U U (D.st 3 dm U U U U U U U U (λ_=>?_)) ?_
       ·skip
        refine nk.nil<|?_
        simp only[app,bV]
        exact S.kY Np ⟨rfl,trivial⟩ (.cons_cons _ (.cons _ (.refl _))) trivial
       exact jr.nil
      refine jr.aV U U U (D.st 3 dm U U U U U U U U (λ_=>?_)) ?_
      ·skip
       refine nk.node [9] (by decide)<|?_
       refine jr.aV U U U (D.PT 0 (m:=m) ay U U (by omega) (by rw[List.length_append];show m<_+1;omega) U U U U (hrows _ U) (hlast (.mk v0 v1 v2 v3 v4) _) (λ_=>?_)) ?_
       ·skip
        refine nk.nil<|?_
        simp only[app,bV]
        exact S.kY Np ⟨rfl,trivial⟩ (.cons_cons _ (.cons _ (.refl _))) trivial
       exact jr.nil
      exact jr.nil
     exact jr.nil
    refine jr.cons U U (by decide) U (D.qu (Z.fa U U) ?_) ?_
    ·skip
     refine nk.node [8,12] (by decide)<|?_
     refine jr.cons U U (by decide) U (D.qu (Z.io (off:=0) (i:=(m:Int)) bR U U (by omega) (by show(m:Int)<((m+1:Nat):Int);omega)) ?_) ?_
     ·skip
      refine nk.node [9,12] (by decide)<|?_
      refine jr.aV U U U (D.PT 0 (m:=m) ay U U (by omega) (by rw[List.length_append];show m<_+1;omega) U U U U (hrows _ U) (hlast (.mk v0 v1 v2 v3 v4) _) (λ_=>?_)) ?_
      ·skip
       refine nk.node [12] (by decide)<|?_
       refine jr.aV U U U (D.st 3 dm U U U U U U U U (λ_=>?_)) ?_
       ·skip
        refine nk.nil<|?_
        simp only[app,bV]
        exact S.kY Np ⟨rfl,trivial⟩ (.cons_cons _ (.cons _ (.refl _))) trivial
       exact jr.nil
      refine jr.aV U U U (D.st 3 dm U U U U U U U U (λ_=>?_)) ?_
      ·skip
       refine nk.node [9] (by decide)<|?_
       refine jr.aV U U U (D.PT 0 (m:=m) ay U U (by omega) (by rw[List.length_append];show m<_+1;omega) U U U U (hrows _ U) (hlast (.mk v0 v1 v2 v3 v4) _) (λ_=>?_)) ?_
       ·skip
        refine nk.nil<|?_
        simp only[app,bV]
        exact S.kY Np ⟨rfl,trivial⟩ (.cons_cons _ (.cons _ (.refl _))) trivial
       exact jr.nil
      exact jr.nil
     refine jr.aV U U U (D.st 3 dm U U U U U U U U (λ_=>?_)) ?_
     ·skip
      refine nk.node [8] (by decide)<|?_
      refine jr.cons U U (by decide) U (D.qu (Z.io (off:=0) (i:=(m:Int)) bR U U (by omega) (by show(m:Int)<((m+1:Nat):Int);omega)) ?_) ?_
      ·skip
       refine nk.node [9] (by decide)<|?_
       refine jr.aV U U U (D.PT 0 (m:=m) ay U U (by omega) (by rw[List.length_append];show m<_+1;omega) U U U U (hrows _ U) (hlast (.mk v0 v1 v2 v3 v4) _) (λ_=>?_)) ?_
       ·skip
        refine nk.nil<|?_
        simp only[app,bV]
        exact S.kY Np ⟨rfl,trivial⟩ (.cons_cons _ (.cons _ (.refl _))) trivial
       exact jr.nil
      exact jr.nil
     exact jr.nil
    exact jr.nil
   exact jr.nil
  exact jr.nil
 ·refine Q.rg<|Q.mv U<|Q.as U<|Q.nt<|UW.ret<|?_
  exact bD [_,_,_] (λ_=>au U U) (.refl _) λhd=>⟨_,hd,rfl,_,_,_,_,hΨ,rfl⟩
def yw(pv:Nat)(v:V):Nat×Ob:=(pv,.box 27 (aN v))
def Dv(p pv:Nat)(s:ByteArray)(d:Nat)(G:Hp):PR->AV->Hp->Prop
 | .err e q,u,H'=>∃news,aK G news/\H'=aB G news/\∃v d',u=F5 e q/\news=[bN p s q d',yw pv v]
 | .ok q v,u,H'=>∃news,aK G news/\H'=aB G news/\u=.v .nilIface/\news=[bN p s q d,yw pv v]
theorem Sn(p pv:Nat)(s:ByteArray)(q d:Nat)(hs:s.size<=1000000)(hq:q<=s.size)(v:V)(hv:Fits v)(hu:gV (s.extract q s.size)=none)(G:Hp){ga gb:Addr}(hG:bO ga gb G)(hd:aK G [bN p s q d,yw pv v]):F Tryz.prog 80 [.ptr p 0,.ptr pv 0] (aB G [bN p s q d,yw pv v]) (Dv p pv s d G (.err 11 q)):=by
 have ht:=λG hG hd=>H7 p s q d hs hq hu G (ga:=ga) (gb:=gb) hG hd
 obtain⟨w0,w1,w2,w3,w4⟩:=v
 unfold bN yw at hd⊢
 refine aA (n:=64) (H0:=G) (M:=[(p,.box 60 (gu s q d)),(pv,.box 27 (aN (.mk w0 w1 w2 w3 w4)))]) Tryz.func80 (by kernel_rfl) U (by rw[Tryz.ntmps80];rfl) hd<|?_
 refine Q.rg<|Q.as U<|Q.nt<|Q.rg<|Q.mv U<|S.qu (Z.iC U)<|Q.fa eu U<|Q.lc 0 bC U U U<|Q.as U<|Q.nt<|Q.rg<|Q.mv U<|S.dd<|D.oJ (.cons 0 U .nil) U U (λH hS hD=>ht H (hG.mono hS) hD)<|?_
 (rintro _ _ ⟨rfl,rfl⟩;unfold bN)
 refine Q.mv U<|S.qu (Z.ex U U)<|S.qu (Z.ex U U)<|Q.as U<|Q.as U<|Q.nt<|S.sq<|Q.rg<|Q.mv U<|S.qu (Z.inT U)<|Q.nt<|S.cT U U<|Q.rg<|Q.mv U<|Q.as U<|Q.nt<|UW.ret<|UQ.aj<|?_
 exact bD [(p,.box 60 (gu s q d)),(pv,.box 27 (aN (.mk w0 w1 w2 w3 w4)))] (λ_=>au U U) (by repeat (first|exact List.nil_sublist _|refine .cons_cons _ ?_|refine .cons _ ?_)) λhd=>⟨_,hd,rfl,.mk w0 w1 w2 w3 w4,d,rfl,rfl⟩
theorem Sq(p pv:Nat)(s:ByteArray)(q d:Nat)(hs:s.size<=1000000)(hq:q<=s.size)(v:V)(hv:Fits v)(key:ByteArray)(n:Nat)(hu:gV (s.extract q s.size)=some (key,n))(Ou:(gL v key).2=true)(G:Hp){ga gb:Addr}(hG:bO ga gb G)(hd:aK G [bN p s q d,yw pv v]):F Tryz.prog 80 [.ptr p 0,.ptr pv 0] (aB G [bN p s q d,yw pv v]) (Dv p pv s d G (.err 14 q)):=by
 have ht:=λG hG hd=>o8 p s q d hs hq key n hu G (ga:=ga) (gb:=gb) hG hd
 have hn:=fV hu
 rw[ext_size] at hn
 have hg:∀H,F Tryz.prog 101 [.agg (aN v),.v (.string key)] H (bn H (.dH [.agg (aN (gL v key).1),.v (.bool true)])):=λH=>Ou▸vQ v hv key H
 generalize (gL v key).1=gv at*
 have hw:=dK p s q d 14
 obtain⟨g0,g1,g2,g3,g4⟩:=gv
 obtain⟨w0,w1,w2,w3,w4⟩:=v
 unfold bN yw at hd⊢
 refine aA (n:=64) (H0:=G) (M:=[(p,.box 60 (gu s q d)),(pv,.box 27 (aN (.mk w0 w1 w2 w3 w4)))]) Tryz.func80 (by kernel_rfl) U (by rw[Tryz.ntmps80];rfl) hd<|?_
 refine Q.rg<|Q.as U<|Q.nt<|Q.rg<|Q.mv U<|S.qu (Z.iC U)<|Q.fa eu U<|Q.lc 0 bC U U U<|Q.as U<|Q.nt<|Q.rg<|Q.mv U<|S.dd<|D.oJ (.cons 0 U .nil) U U (λH hS hD=>ht H (hG.mono hS) hD)<|?_
 (rintro _ _ ⟨rfl,rfl⟩;unfold bN)
 refine Q.mv U<|S.qu (Z.ex U U)<|S.qu (Z.ex U U)<|Q.as U<|Q.as U<|Q.nt<|S.sq<|Q.rg<|Q.mv U<|S.qu (Z.BK U)<|Q.nt<|S.cF U U<|UW.skip<|UQ.then<|S.sq<|Q.rg<|Q.mv U<|S.qu (Z.iC U)<|S.qu (Z.bg 1 ay U U U)<|Q.mv U<|S.qu (Z.call U U (λH=>hg H))<|Q.mv U<|S.qu (Z.ex U U)<|S.qu (Z.ex U U)<|S.dd<|D.al z27 U U U λp8=>S.s<|D.st 0 ay U U U U U U U U λ_=>Q.as U<|Q.nt<|Q.rg<|Q.mv U<|Q.nt<|S.cT U U<|Q.rg<|Q.mv U<|Q.mv U<|S.qu (Z.iC U)<|Q.fa eu U<|S.s<|D.st 1 bC U U U U U U U U λ_=>Q.nt<|Q.rg<|Q.mv U<|S.qu (Z.aQ U U (λhd=>hw _ (hd.at_ (k:=1) U)))<|Q.as U<|Q.nt<|UW.ret<|UQ.aj<|?_
 exact bD [(p,.box 60 (gu s q d)),(pv,.box 27 (aN (.mk w0 w1 w2 w3 w4)))] (λ_=>au U U) (by repeat (first|exact List.nil_sublist _|refine .cons_cons _ ?_|refine .cons _ ?_)) λhd=>⟨_,hd,rfl,.mk w0 w1 w2 w3 w4,d,rfl,rfl⟩
theorem Sr(p pv:Nat)(s:ByteArray)(q d:Nat)(hs:s.size<=1000000)(hq:q<=s.size)(v:V)(hv:Fits v)(key:ByteArray)(n:Nat)(hu:gV (s.extract q s.size)=some (key,n))(hno:(gL v key).2=false)(hc:bT s (aC s (q+n)) 58=false)(G:Hp){ga gb:Addr}(hG:bO ga gb G)(hd:aK G [bN p s q d,yw pv v]):F Tryz.prog 80 [.ptr p 0,.ptr pv 0] (aB G [bN p s q d,yw pv v]) (Dv p pv s d G (.err 11 (aC s (q+n)))):=by
 have ht:=λG hG hd=>o8 p s q d hs hq key n hu G (ga:=ga) (gb:=gb) hG hd
 have hn:=fV hu
 rw[ext_size] at hn
 have hg:∀H,F Tryz.prog 101 [.agg (aN v),.v (.string key)] H (bn H (.dH [.agg (aN (gL v key).1),.v (.bool false)])):=λH=>hno▸vQ v hv key H
 generalize (gL v key).1=gv at*
 obtain⟨g0,g1,g2,g3,g4⟩:=gv
 have h1:=bu s (q+n)
 have h2:=aX s (q+n) (by omega)
 have hb:=λG hd=>bX p s (q+n) d hs (by omega) G hd
 obtain⟨c,hcc⟩:∃c,c=aC s (q+n):=⟨_,rfl⟩
 rw[<-hcc] at hc h1 h2 hb
 rw[<-hcc]
 have hne:=λG hd=>Be p s c d hs h2 ⟨#[58]⟩ (by rw[show(⟨#[58]⟩:ByteArray).data.toList=[58] from rfl,qE s c 58 h2];exact hc) (by decide) G hd
 obtain⟨w0,w1,w2,w3,w4⟩:=v
 unfold bN yw at hd⊢
 refine aA (n:=64) (H0:=G) (M:=[(p,.box 60 (gu s q d)),(pv,.box 27 (aN (.mk w0 w1 w2 w3 w4)))]) Tryz.func80 (by kernel_rfl) U (by rw[Tryz.ntmps80];rfl) hd<|?_
 refine Q.rg<|Q.as U<|Q.nt<|Q.rg<|Q.mv U<|S.qu (Z.iC U)<|Q.fa eu U<|Q.lc 0 bC U U U<|Q.as U<|Q.nt<|Q.rg<|Q.mv U<|S.dd<|D.oJ (.cons 0 U .nil) U U (λH hS hD=>ht H (hG.mono hS) hD)<|?_
 (rintro _ _ ⟨rfl,rfl⟩;unfold bN)
 refine Q.mv U<|S.qu (Z.ex U U)<|S.qu (Z.ex U U)<|Q.as U<|Q.as U<|Q.nt<|S.sq<|Q.rg<|Q.mv U<|S.qu (Z.BK U)<|Q.nt<|S.cF U U<|UW.skip<|UQ.then<|S.sq<|Q.rg<|Q.mv U<|S.qu (Z.iC U)<|S.qu (Z.bg 1 ay U U U)<|Q.mv U<|S.qu (Z.call U U (λH=>hg H))<|Q.mv U<|S.qu (Z.ex U U)<|S.qu (Z.ex U U)<|S.dd<|D.al z27 U U U λp8=>S.s<|D.st 0 ay U U U U U U U U λ_=>Q.as U<|Q.nt<|Q.rg<|Q.mv U<|Q.nt<|S.cF U U<|UW.skip<|UQ.then<|Q.rg<|Q.mv U<|S.dd<|D.oJ (.cons 1 U .nil) U U (λH hS hD=>hb H hD)<|?_
 (rintro _ _ ⟨rfl,rfl⟩;unfold bN)
 refine Q.nt<|S.sq<|Q.rg<|Q.mv U<|S.dd<|D.oJ (.cons 0 U .nil) U U (λH hS hD=>hne H hD)<|?_
 (rintro _ _ ⟨rfl,rfl⟩;unfold bN)
 refine Q.as U<|Q.nt<|Q.rg<|Q.mv U<|S.qu (Z.inT U)<|Q.nt<|S.cT U U<|Q.rg<|Q.mv U<|Q.as U<|Q.nt<|UW.ret<|UQ.aj<|?_
 exact bD [(p,.box 60 (gu s c d)),(pv,.box 27 (aN (.mk w0 w1 w2 w3 w4)))] (λ_=>au U U) (by repeat (first|exact List.nil_sublist _|refine .cons_cons _ ?_|refine .cons _ ?_)) λhd=>⟨_,hd,rfl,.mk w0 w1 w2 w3 w4,d,rfl,rfl⟩
theorem Su(p pv:Nat)(s:ByteArray)(q d:Nat)(hs:s.size<=1000000)(hq:q<=s.size)(v:V)(hv:Fits v)(key:ByteArray)(n:Nat)(hu:gV (s.extract q s.size)=some (key,n))(hno:(gL v key).2=false)(hc:bT s (aC s (q+n)) 58=true)(e:Int)(q1:Nat)(G:Hp){ga gb:Addr}(hG:bO ga gb G)
 (hval:∀G,bO ga gb G->aK G [bN p s (aC s (aC s (q+n)+1)) d]->F Tryz.prog 55 [.ptr p 0] (aB G [bN p s (aC s (aC s (q+n)+1)) d]) (jc p s d G (.err e q1))) (hd:aK G [bN p s q d,yw pv v]):F Tryz.prog 80 [.ptr p 0,.ptr pv 0] (aB G [bN p s q d,yw pv v]) (Dv p pv s d G (.err e q1)):=by
 have ht:=λG hG hd=>o8 p s q d hs hq key n hu G (ga:=ga) (gb:=gb) hG hd
 have hn:=fV hu
 rw[ext_size] at hn
 have hg:∀H,F Tryz.prog 101 [.agg (aN v),.v (.string key)] H (bn H (.dH [.agg (aN (gL v key).1),.v (.bool false)])):=λH=>hno▸vQ v hv key H
 generalize (gL v key).1=gv at*
 obtain⟨g0,g1,g2,g3,g4⟩:=gv
 have h1:=bu s (q+n)
 have h2:=aX s (q+n) (by omega)
 have hb:=λG hd=>bX p s (q+n) d hs (by omega) G hd
 obtain⟨c,hcc⟩:∃c,c=aC s (q+n):=⟨_,rfl⟩
 rw[<-hcc] at hc h1 h2 hb
 have hne:=λG hd=>sM p s c d hs h2 ⟨#[58]⟩ (by rw[show(⟨#[58]⟩:ByteArray).data.toList=[58] from rfl,qE s c 58 h2];exact hc) (by decide) G hd
 have hlt:=bP hc
 have hb2:=λG hd=>bX p s (c+1) d hs (by omega) G hd
 rw[<-hcc] at hval
 generalize aC s (c+1)=c2 at*
 obtain⟨w0,w1,w2,w3,w4⟩:=v
 unfold bN yw at hd⊢
 refine aA (n:=64) (H0:=G) (M:=[(p,.box 60 (gu s q d)),(pv,.box 27 (aN (.mk w0 w1 w2 w3 w4)))]) Tryz.func80 (by kernel_rfl) U (by rw[Tryz.ntmps80];rfl) hd<|?_
 refine Q.rg<|Q.as U<|Q.nt<|Q.rg<|Q.mv U<|S.qu (Z.iC U)<|Q.fa eu U<|Q.lc 0 bC U U U<|Q.as U<|Q.nt<|Q.rg<|Q.mv U<|S.dd<|D.oJ (.cons 0 U .nil) U U (λH hS hD=>ht H (hG.mono hS) hD)<|?_
 (rintro _ _ ⟨rfl,rfl⟩;unfold bN)
 refine Q.mv U<|S.qu (Z.ex U U)<|S.qu (Z.ex U U)<|Q.as U<|Q.as U<|Q.nt<|S.sq<|Q.rg<|Q.mv U<|S.qu (Z.BK U)<|Q.nt<|S.cF U U<|UW.skip<|UQ.then<|S.sq<|Q.rg<|Q.mv U<|S.qu (Z.iC U)<|S.qu (Z.bg 1 ay U U U)<|Q.mv U<|S.qu (Z.call U U (λH=>hg H))<|Q.mv U<|S.qu (Z.ex U U)<|S.qu (Z.ex U U)<|S.dd<|D.al z27 U U U λp8=>S.s<|D.st 0 ay U U U U U U U U λ_=>Q.as U<|Q.nt<|Q.rg<|Q.mv U<|Q.nt<|S.cF U U<|UW.skip<|UQ.then<|Q.rg<|Q.mv U<|S.dd<|D.oJ (.cons 1 U .nil) U U (λH hS hD=>hb H hD)<|?_
 (rintro _ _ ⟨rfl,rfl⟩;unfold bN)
 refine Q.nt<|S.sq<|Q.rg<|Q.mv U<|S.dd<|D.oJ (.cons 0 U .nil) U U (λH hS hD=>hne H hD)<|?_
 (rintro _ _ ⟨rfl,rfl⟩;unfold bN)
 refine Q.as U<|Q.nt<|Q.rg<|Q.mv U<|S.qu (Z.BK U)<|Q.nt<|S.cF U U<|UW.skip<|UQ.then<|Q.rg<|Q.mv U<|S.dd<|D.oJ (.cons 0 U .nil) U U (λH hS hD=>hb2 H hD)<|?_
 (rintro _ _ ⟨rfl,rfl⟩;unfold bN)
 refine Q.nt<|Q.rg<|Q.mv U<|S.dd<|D.oJ (.cons 0 U .nil) U U (λH hS hD=>hval H (hG.mono hS) hD)<|?_
 (rintro _ _ ⟨⟨x0,x1,x2,x3,x4⟩,d',rfl,rfl⟩;unfold bN)
 refine Q.mv U<|S.qu (Z.ex U U)<|S.qu (Z.ex U U)<|S.dd<|D.al z27 U U U λWh=>S.s<|D.st 0 ay U U U U U U U U λ_=>Q.as U<|Q.nt<|S.sq<|Q.rg<|Q.mv U<|S.qu (Z.ieF U)<|Q.nt<|S.cF U U<|UW.skip<|UQ.then<|Q.rg<|Q.mv U<|Q.as U<|Q.nt<|UW.ret<|?_
 exact bD [(p,.box 60 (gu s q1 d')),(pv,.box 27 (aN (.mk w0 w1 w2 w3 w4)))] (λ_=>au U U) (by repeat (first|exact List.nil_sublist _|refine .cons_cons _ ?_|refine .cons _ ?_)) λhd=>⟨_,hd,rfl,.mk w0 w1 w2 w3 w4,d',rfl,rfl⟩
theorem Sv(p pv:Nat)(s:ByteArray)(q d:Nat)(hs:s.size<=1000000)(hq:q<=s.size)(v:V)(hv:Fits v)(key:ByteArray)(n:Nat)(hu:gV (s.extract q s.size)=some (key,n))(hno:(gL v key).2=false)(hc:bT s (aC s (q+n)) 58=true)(x:V)(hx:Fits x)(q1:Nat)(G:Hp){ga gb:Addr}(hG:bO ga gb G)
 (hval:∀G,bO ga gb G->aK G [bN p s (aC s (aC s (q+n)+1)) d]->F Tryz.prog 55 [.ptr p 0] (aB G [bN p s (aC s (aC s (q+n)+1)) d]) (jc p s d G (.ok q1 x))) (hd:aK G [bN p s q d,yw pv v]):F Tryz.prog 80 [.ptr p 0,.ptr pv 0] (aB G [bN p s q d,yw pv v]) (Dv p pv s d G (.ok q1 (dE v key x))):=by
 have hwi:=λH=>Mk v hv key x hx H
 have ht:=λG hG hd=>o8 p s q d hs hq key n hu G (ga:=ga) (gb:=gb) hG hd
 have hn:=fV hu
 rw[ext_size] at hn
 have hg:∀H,F Tryz.prog 101 [.agg (aN v),.v (.string key)] H (bn H (.dH [.agg (aN (gL v key).1),.v (.bool false)])):=λH=>hno▸vQ v hv key H
 generalize (gL v key).1=gv at*
 obtain⟨g0,g1,g2,g3,g4⟩:=gv
 have h1:=bu s (q+n)
 have h2:=aX s (q+n) (by omega)
 have hb:=λG hd=>bX p s (q+n) d hs (by omega) G hd
 obtain⟨c,hcc⟩:∃c,c=aC s (q+n):=⟨_,rfl⟩
 rw[<-hcc] at hc h1 h2 hb
 have hne:=λG hd=>sM p s c d hs h2 ⟨#[58]⟩ (by rw[show(⟨#[58]⟩:ByteArray).data.toList=[58] from rfl,qE s c 58 h2];exact hc) (by decide) G hd
 have hlt:=bP hc
 have hb2:=λG hd=>bX p s (c+1) d hs (by omega) G hd
 rw[<-hcc] at hval
 generalize aC s (c+1)=c2 at*
 generalize dE v key x=y at*
 obtain⟨x0,x1,x2,x3,x4⟩:=x
 obtain⟨y0,y1,y2,y3,y4⟩:=y
 obtain⟨w0,w1,w2,w3,w4⟩:=v
 unfold bN yw at hd⊢
 refine aA (n:=64) (H0:=G) (M:=[(p,.box 60 (gu s q d)),(pv,.box 27 (aN (.mk w0 w1 w2 w3 w4)))]) Tryz.func80 (by kernel_rfl) U (by rw[Tryz.ntmps80];rfl) hd<|?_
 refine Q.rg<|Q.as U<|Q.nt<|Q.rg<|Q.mv U<|S.qu (Z.iC U)<|Q.fa eu U<|Q.lc 0 bC U U U<|Q.as U<|Q.nt<|Q.rg<|Q.mv U<|S.dd<|D.oJ (.cons 0 U .nil) U U (λH hS hD=>ht H (hG.mono hS) hD)<|?_
 (rintro _ _ ⟨rfl,rfl⟩;unfold bN)
 refine Q.mv U<|S.qu (Z.ex U U)<|S.qu (Z.ex U U)<|Q.as U<|Q.as U<|Q.nt<|S.sq<|Q.rg<|Q.mv U<|S.qu (Z.BK U)<|Q.nt<|S.cF U U<|UW.skip<|UQ.then<|S.sq<|Q.rg<|Q.mv U<|S.qu (Z.iC U)<|S.qu (Z.bg 1 ay U U U)<|Q.mv U<|S.qu (Z.call U U (λH=>hg H))<|Q.mv U<|S.qu (Z.ex U U)<|S.qu (Z.ex U U)<|S.dd<|D.al z27 U U U λp8=>S.s<|D.st 0 ay U U U U U U U U λ_=>Q.as U<|Q.nt<|Q.rg<|Q.mv U<|Q.nt<|S.cF U U<|UW.skip<|UQ.then<|Q.rg<|Q.mv U<|S.dd<|D.oJ (.cons 1 U .nil) U U (λH hS hD=>hb H hD)<|?_
 (rintro _ _ ⟨rfl,rfl⟩;unfold bN)
 refine Q.nt<|S.sq<|Q.rg<|Q.mv U<|S.dd<|D.oJ (.cons 0 U .nil) U U (λH hS hD=>hne H hD)<|?_
 (rintro _ _ ⟨rfl,rfl⟩;unfold bN)
 refine Q.as U<|Q.nt<|Q.rg<|Q.mv U<|S.qu (Z.BK U)<|Q.nt<|S.cF U U<|UW.skip<|UQ.then<|Q.rg<|Q.mv U<|S.dd<|D.oJ (.cons 0 U .nil) U U (λH hS hD=>hb2 H hD)<|?_
 (rintro _ _ ⟨rfl,rfl⟩;unfold bN)
 refine Q.nt<|Q.rg<|Q.mv U<|S.dd<|D.oJ (.cons 0 U .nil) U U (λH hS hD=>hval H (hG.mono hS) hD)<|?_
 (rintro _ _ ⟨rfl,rfl⟩;unfold bN)
 refine Q.mv U<|S.qu (Z.ex U U)<|S.qu (Z.ex U U)<|S.dd<|D.al z27 U U U λWh=>S.s<|D.st 0 ay U U U U U U U U λ_=>Q.as U<|Q.nt<|S.sq<|Q.rg<|Q.mv U<|S.qu (Z.ieT U)<|Q.nt<|S.cT U U<|?_
 refine' UW.dC (by kernel_rfl) [0,0,2,6,0,0,62,127,255] [some 55,some 56,some 57,some 58,some 59,some 60,some 61,some 62,none] [some (55,_),some (56,_),some (57,_),some (58,_),some (59,_),some (60,_),some (61,_),some (62,_),none] [8] [3,5] U (by decide) (by decide) (I.free (by decide) U U ?kE (I.free (by decide) U U ?kF (I.free (by decide) U U ?mJ (I.held (by decide) U U ?mK (I.free (by decide) U U ?qo (I.held (by decide) U U ?pQ (I.free (by decide) U U ?pU (I.free (by decide) U U ?pV (I.skip I.nil))))))))) ?xY
 case kE=>(intro _;exact Z.mv rfl)
 case kF=>(intro _;exact Z.mv rfl)
 case mJ=>(intro _;exact Z.iC rfl)
 case mK=>exact Z.bg 3 ay rfl rfl rfl
 case qo=>(intro _;exact Z.mv rfl)
 case pQ=>exact Z.bg 0 ay rfl rfl rfl
 case pU=>(intro _;exact Z.call rfl rfl (λH=>hwi H))
 case pV=>(intro _;exact Z.iC rfl)
 refine CH.aV U U<|D.st 3 ay U U U U U U U U λ_=>CH.nil<|?_
 simp only[app,bV]
 refine UQ.then<|Q.rg<|Q.mv U<|Q.as U<|Q.nt<|UW.ret<|?_
 exact bD [(p,.box 60 (gu s q1 d)),(pv,.box 27 (aN (.mk y0 y1 y2 y3 y4)))] (λ_=>au U U) (by repeat (first|exact List.nil_sublist _|refine .cons_cons _ ?_|refine .cons _ ?_)) λhd=>⟨_,hd,rfl,rfl,rfl⟩
end Go.Proofs.YtbooeongacgnbaaGreatDoor
end
