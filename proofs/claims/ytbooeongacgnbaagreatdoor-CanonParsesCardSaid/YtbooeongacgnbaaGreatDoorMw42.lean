/- A part of the proof. -/
import Derived.Test.YtbooeongacgnbaaGreatDoorMw25
import Derived.Test.YtbooeongacgnbaaGreatDoorMw20
import Derived.Test.YtbooeongacgnbaaGreatDoorMw40
import Derived.Test.YtbooeongacgnbaaGreatDoorMw41
import Derived.Test.YtbooeongacgnbaaGreatDoorMw13
import Derived.Test.YtbooeongacgnbaaGreatDoorMw17
set_option maxRecDepth 100000
set_option maxHeartbeats 4000000
set_option linter.unusedSectionVars false
set_option linter.unusedVariables false
set_option linter.unusedSimpArgs false
section
namespace Go.Proofs.YtbooeongacgnbaaGreatDoor
open Go Go.gW Go.RowKit
def qH(b:List UInt8):Prop:=∀x∈b,ik (x.toNat:Int)=true
theorem qH.nil:qH []:=λx h=>by cases h
theorem eU{s:ByteArray}:∀{b:List UInt8} {p:Nat} {x:UInt8} {r:List UInt8},Here s p (b++x::r)->qH b->ik (x.toNat:Int)=false->aC s p=p+b.length
 |[],p,x,r,h,_,hx=>AR (λ_=>by rw[(show Here s p (x::r) from h).hd.2.1];exact hx)
 |y::b,p,x,r,h,hb,hx=>by
  obtain⟨h1,h2,h3⟩:=(show Here s p (y::(b++x::r)) from h).hd
  rw[yl h1 (by rw[h2];exact hb y (List.mem_cons_self ..)),eU h3 (λz hz=>hb z (List.mem_cons_of_mem _ hz)) hx]
  simp only[List.length_cons]
  omega
theorem IG{s:ByteArray}:∀{b:List UInt8} {p:Nat},(bl s).drop p=b->p<=s.size->qH b->aC s p=s.size
 |[],p,h,hp,_=>by
  have:s.size<=p:=by
   have:=congrArg List.length h
   rw[List.length_drop,iq] at this
   simp at this;omega
  rw[aC,dif_neg (by omega)];omega
 |y::b,p,h,hp,hb=>by
  obtain⟨h1,h2,_⟩:=(show Here s p (y::b) from⟨[],by rw[h,List.append_nil]⟩).hd
  rw[yl h1 (by rw[h2];exact hb y (List.mem_cons_self ..))]
  refine IG (b:=b) ?_ (by omega) (λz hz=>hb z (List.mem_cons_of_mem _ hz))
  rw[<-List.drop_drop,h];rfl
theorem rQ{s:ByteArray}{b:List UInt8}{p:Nat}{x:UInt8}{r:List UInt8}(h:Here s p (b++x::r))(hb:qH b)(hx:x=44\/x=93\/x=125):RJ s p:=λhlt=>by
 cases b with
 |nil=>
  obtain⟨_,h2,_⟩:=(show Here s p (x::r) from h).hd
  rw[h2]
  rcases hx with rfl|rfl|rfl
  ·exact .inl U
  ·exact .inr (.inl U)
  ·exact .inr (.inr (.inl U))
 |cons y b=>
  obtain⟨_,h2,_⟩:=(show Here s p (y::(b++x::r)) from h).hd
  rw[h2]
  exact .inr (.inr (.inr (hb y (List.mem_cons_self ..))))
inductive tu:V->List UInt8->Prop
 |null:tu zeroV (bl gU)
 |yes:tu (.mk 1 1 ⟨#[]⟩ [] []) (bl iH)
 |no:tu (.mk 1 0 ⟨#[]⟩ [] []) (bl fI)
 |num (n:Int) (h0: -9007199254740991<=n) (h1:n<=9007199254740991):tu (qO n) (bl (kI n))
 |str (t:ByteArray) (h:nu t<0):tu (BP t) (bl (dJ t))
theorem oI{s:ByteArray}{p:Nat}{x:UInt8}{l:List UInt8}(h:Here s p (x::l)){c:Int}(hc:(x.toNat:Int)≠c):bT s p c=false:=by
 rw[ng h];exact beq_eq_false_iff_ne.2 hc
theorem oh{s:ByteArray}{p:Nat}{x:UInt8}{l:List UInt8}(h:Here s p (x::l)){c:Int}(hc:(x.toNat:Int)=c):bT s p c=true:=by
 rw[ng h];exact beq_iff_eq.2 hc
theorem xC{s:ByteArray}{p:Nat}{x:UInt8}{l:List UInt8}(h:Here s p (x::l))(f d:Nat)(h1:x.toNat≠91)(h2:x.toNat≠123)(h3:x.toNat≠34)(h4:x.toNat≠45)(h5:¬xI x):fQ s (f+1) p d=eG s p:=by
 rw[fQ,if_neg (by rw[oI h (by omega),oI h (by omega)];decide),if_neg (by rw[oI h (by omega)];decide),if_neg (by rw[oI h (by omega),Kb h h5];decide)]
theorem tu.tell{v:V}{l:List UInt8}(h:tu v l){s:ByteArray}{p:Nat}(f d:Nat)(hh:Here s p l)(hp:p<=s.size)(ha:RJ s (p+l.length)):fQ s (f+1) p d=.ok (p+l.length) v:=by
 cases h with
 |null=>rw[xC (x:=110) (l:=[117,108,108]) hh f d (by decide) (by decide) (by decide) (by decide) (by unfold xI;decide)];exact(yt hp).1 hh
 |yes=>rw[xC (x:=116) (l:=[114,117,101]) hh f d (by decide) (by decide) (by decide) (by decide) (by unfold xI;decide)];exact(yt hp).2.1 hh
 |no=>rw[xC (x:=102) (l:=[97,108,115,101]) hh f d (by decide) (by decide) (by decide) (by decide) (by unfold xI;decide)];exact(yt hp).2.2 hh
 |num n h0 h1=>
  obtain⟨e1,e2,e3,e4,e5⟩:=MJ h0 h1 hh ha
  rw[fQ,if_neg (by rw[e3,e4];decide),if_neg (by rw[e5];decide),if_pos e2,e1];rfl
 |str t ht=>
  have hu:=Da ht hh
  rw[jZ] at hh
  rw[fQ,if_neg (by rw[oI hh (by decide),oI hh (by decide)];decide),if_pos (oh hh (by decide)),hu];rfl
structure Hd(x:UInt8):Prop where
 bk:ik (x.toNat:Int)=false
 n93:x.toNat≠93
 n125:x.toNat≠125
 n44:x.toNat≠44
 n58:x.toNat≠58
theorem PL{x:UInt8}(h:xI x):Hd x:=by
 unfold xI at h
 refine⟨?_,by omega,by omega,by omega,by omega⟩
 cases hb:ik (x.toNat:Int) with
 |false=>rfl
 |true=>have:=sI hb;omega
theorem tu.head{v:V}{l:List UInt8}(h:tu v l):∃x r,l=x::r/\Hd x:=by
 cases h with
 |null=>exact⟨110,[117,108,108],rfl,by decide,by decide,by decide,by decide,by decide⟩
 |yes=>exact⟨116,[114,117,101],rfl,by decide,by decide,by decide,by decide,by decide⟩
 |no=>exact⟨102,[97,108,115,101],rfl,by decide,by decide,by decide,by decide,by decide⟩
 |num n h0 h1=>
  show∃x r,Lib.itoa n=x::r/\Hd x
  unfold Lib.itoa
  split
  ·exact⟨45,_,rfl,by decide,by decide,by decide,by decide,by decide⟩
  ·have h1:=FB n.toNat
   have h2:=xk n.toNat
   cases hl:Lib.decDigits n.toNat with
   |nil=>rw[hl] at h1;cases h1
   |cons x r=>rw[hl] at h2;exact⟨x,r,rfl,PL (h2 x (List.mem_cons_self ..))⟩
 |str t ht=>exact⟨34,_,jZ t,by decide,by decide,by decide,by decide,by decide⟩
inductive Tok where
 |val (v:V)
 |items (vs:List V)
 |pairs (w r:V)
inductive Sp:Nat->Tok->List UInt8->Prop
 |leaf {n v l} (h:tu v l):Sp n (.val v) l
 |DD {n b} (hb:qH b):Sp (n+1) (.val (.mk 4 0 ⟨#[]⟩ [] [])) (91::(b++[93]))
 |list {n b vs l} (hb:qH b) (h:Sp n (.items vs) l):Sp (n+1) (.val (.mk 4 0 ⟨#[]⟩ [] vs)) (91::(b++l))
 |Ww {n b} (hb:qH b):Sp (n+1) (.val (.mk 5 0 ⟨#[]⟩ [] [])) (123::(b++[125]))
 |obj {n b r l} (hb:qH b) (h:Sp n (.pairs (.mk 5 0 ⟨#[]⟩ [] []) r) l):Sp (n+1) (.val r) (123::(b++l))
 |one {n v l b} (h:Sp n (.val v) l) (hb:qH b):Sp n (.items [v]) (l++(b++[93]))
 |cons {n v l b b' vs l'} (h:Sp n (.val v) l) (hb:qH b) (hb':qH b') (t:Sp n (.items vs) l'):Sp n (.items (v::vs)) (l++(b++44::(b'++l')))
 |SG {n w key v l b b1 b2} (hk:nu key<0) (hg:(gL w key).2=false) (hb1:qH b1) (hb2:qH b2) (h:Sp n (.val v) l) (hb:qH b):Sp n (.pairs w (dE w key v)) (bl (dJ key)++(b1++58::(b2++(l++(b++[125])))))
 |LJ {n w key v r l b b1 b2 b' l'} (hk:nu key<0) (hg:(gL w key).2=false) (hb1:qH b1) (hb2:qH b2) (h:Sp n (.val v) l) (hb:qH b) (hb':qH b') (t:Sp n (.pairs (dE w key v) r) l'):Sp n (.pairs w r) (bl (dJ key)++(b1++58::(b2++(l++(b++44::(b'++l'))))))
theorem Sp.head{n:Nat}{t:Tok}{l:List UInt8}(h:Sp n t l):∃x r,l=x::r/\Hd x:=by
 have key:∀{a b:List UInt8},(∃x r,a=x::r/\Hd x)->∃x r,a++b=x::r/\Hd x:=λ{a b} h=>by
  obtain⟨x,r,rfl,h2⟩:=h
  exact⟨x,r++b,rfl,h2⟩
 induction h with
 |leaf h=>exact h.head
 |DD hb=>exact⟨91,_,rfl,by decide,by decide,by decide,by decide,by decide⟩
 |list hb h ih=>exact⟨91,_,rfl,by decide,by decide,by decide,by decide,by decide⟩
 |Ww hb=>exact⟨123,_,rfl,by decide,by decide,by decide,by decide,by decide⟩
 |obj hb h ih=>exact⟨123,_,rfl,by decide,by decide,by decide,by decide,by decide⟩
 |one h hb ih=>exact key ih
 |cons h hb hb' t ih _=>exact key ih
 |SG hk hg hb1 hb2 h hb ih=>exact key ⟨34,_,jZ _,by decide,by decide,by decide,by decide,by decide⟩
 |LJ hk hg hb1 hb2 h hb hb' t ih _=>exact key ⟨34,_,jZ _,by decide,by decide,by decide,by decide,by decide⟩
def X6(s:ByteArray)(n:Nat)(l:List UInt8):Tok->Prop
 | .val v=>∀p f d,Here s p l->p<=s.size->RJ s (p+l.length)->d+n<=32->4*l.length+4<=f->fQ s f p d=.ok (p+l.length) v
 | .items vs=>∀p f d acc,Here s p l->d+n<=32->4*l.length+5<=f->dP s f p d false (.mk 4 0 ⟨#[]⟩ [] acc)=.ok (p+l.length) (.mk 4 0 ⟨#[]⟩ [] (acc++vs))
 | .pairs w r=>∀p f d,Here s p l->d+n<=32->4*l.length+5<=f->dP s f p d true w=.ok (p+l.length) r
theorem Here.lt{s:ByteArray}{p:Nat}{l:List UInt8}(h:Here s p l)(h0:l≠[]):p<s.size:=by
 cases l with
 |nil=>exact absurd U h0
 |cons x r=>exact h.hd.1
theorem yB{s:ByteArray}{p:Nat}{b l:List UInt8}{x:UInt8}{r:List UInt8}(f d:Nat)(ob:Bool){c:UInt8}(hc:(c.toNat:Int)=if ob=true then 123 else 91)(h:Here s p (c::(b++l)))(hb:qH b)(hl:l=x::r)(hx:Hd x)(hd:d<32):
 fQ s (f+2) p d=dP s f (p+1+b.length) (d+1) ob (qP ob)/\Here s (p+1+b.length) l:=by
 have h2:=h.hd.2.2
 have h3:=h2.sp.2
 rw[hl] at h2 h3
 have hb1:bT s p 91=!ob:=by rw[ng h,hc];cases ob<;>rfl
 have hb2:bT s p 123=ob:=by rw[ng h,hc];cases ob<;>rfl
 refine⟨?_,by rw[hl];exact h3⟩
 rw[fQ,if_pos (by rw[hb1,hb2];cases ob<;>decide),if_neg (by omega),hb2,gJ,eU h2 hb hx.bk,if_neg]
 rw[oI h3]
 ·decide
 ·unfold jY;split
  ·have:=hx.n125;omega
  ·have:=hx.n93;omega
theorem DF{s:ByteArray}{p:Nat}{b:List UInt8}(f d:Nat)(ob:Bool){c e:UInt8}(hc:(c.toNat:Int)=if ob=true then 123 else 91)(he:(e.toNat:Int)=jY ob)(h:Here s p (c::(b++[e])))(hb:qH b)(hd:d<32):
 fQ s (f+2) p d=.ok (p+1+b.length+1) (qP ob):=by
 have h2:=h.hd.2.2
 have h3:=h2.sp.2
 have hb1:bT s p 91=!ob:=by rw[ng h,hc];cases ob<;>rfl
 have hb2:bT s p 123=ob:=by rw[ng h,hc];cases ob<;>rfl
 have hbe:ik (e.toNat:Int)=false:=by rw[he];cases ob<;>decide
 rw[fQ,if_pos (by rw[hb1,hb2];cases ob<;>decide),if_neg (by omega),hb2,gJ,eU h2 hb hbe,if_pos (oh h3 he)]
theorem DI{s:ByteArray}{p:Nat}{key:ByteArray}{w v:V}{l b1 b2 rest:List UInt8}(f d:Nat)(hk:nu key<0)(hg:(gL w key).2=false)(hb1:qH b1)(hb2:qH b2){x:UInt8}{r:List UInt8}(hl:l=x::r)(hx:Hd x)
 (h:Here s p (bl (dJ key)++(b1++58::(b2++(l++rest))))) (hv:∀p',p'=p+(bl (dJ key)).length+b1.length+1+b2.length->Here s p' l->fQ s f p' d=.ok (p'+l.length) v):
 gM s (f+1) p d w=.ok (p+(bl (dJ key)).length+b1.length+1+b2.length+l.length) (dE w key v)/\Here s (p+(bl (dJ key)).length+b1.length+1+b2.length+l.length) rest:=by
 obtain⟨h1,h2⟩:=h.sp
 have h3:=h2.sp.2
 have h4:=h3.hd.2.2
 have h5:=h4.sp.2
 obtain⟨h6,h7⟩:=h5.sp
 have hvl:=hv _ U h6
 refine⟨?_,h7⟩
 rw[hl] at h4
 have e:(dJ key).size=(bl (dJ key)).length:=rfl
 rw[gM,Da hk h1,e]
 dsimp only
 rw[if_neg (by rw[hg];decide),eU h2 hb1 (by decide),if_pos (oh h3 (by decide)),eU (show Here s _ (b2++x::(r++rest)) from h4) hb2 hx.bk,hvl]
theorem Sp.tell{n:Nat}{t:Tok}{l:List UInt8}(h:Sp n t l)(s:ByteArray):X6 s n l t:=by
 induction h with
 |leaf h=>
  intro p f d hh hp ha hd hf
  obtain⟨f,rfl⟩:∃f',f=f'+1:=⟨f-1,by omega⟩
  exact h.tell f d hh hp ha
 | @DD n b hb=>
   intro p f d hh hp ha hd hf
   obtain⟨f,rfl⟩:∃f',f=f'+2:=⟨f-2,by omega⟩
   rw[DF f d false (by decide) (by decide) hh hb (by omega)]
   congr 1
   simp only[List.length_cons,List.length_append,List.length_nil];omega
 | @Ww n b hb=>
   intro p f d hh hp ha hd hf
   obtain⟨f,rfl⟩:∃f',f=f'+2:=⟨f-2,by omega⟩
   rw[DF f d true (by decide) (by decide) hh hb (by omega)]
   congr 1
   simp only[List.length_cons,List.length_append,List.length_nil];omega
 | @list n b vs l hb h ih=>
   intro p f d hh hp ha hd hf
   simp only[List.length_cons,List.length_append] at hf⊢
   obtain⟨x,r,hl,hx⟩:=h.head
   obtain⟨f,rfl⟩:∃f',f=f'+2:=⟨f-2,by omega⟩
   obtain⟨e1,e2⟩:=yB f d false (c:=91) (by decide) hh hb hl hx (by omega)
   rw[e1]
   refine(ih _ f (d+1) [] e2 (by omega) (by omega)).trans<|?_
   rw[List.nil_append];congr 1;omega
 | @obj n b r l hb h ih=>
   intro p f d hh hp ha hd hf
   simp only[List.length_cons,List.length_append] at hf⊢
   obtain⟨x,r,hl,hx⟩:=h.head
   obtain⟨f,rfl⟩:∃f',f=f'+2:=⟨f-2,by omega⟩
   obtain⟨e1,e2⟩:=yB f d true (c:=123) (by decide) hh hb hl hx (by omega)
   rw[e1]
   refine(ih _ f (d+1) e2 (by omega) (by omega)).trans<|?_
   congr 1;omega
 | @one n v l b h hb ih=>
   intro p f d acc hh hd hf
   simp only[List.length_cons,List.length_append,List.length_nil] at hf⊢
   obtain⟨x,r,hl,hx⟩:=h.head
   obtain⟨h1,h2⟩:=hh.sp
   have h3:=h2.sp.2
   have hlt:=h1.lt (by rw[hl];simp)
   obtain⟨f,rfl⟩:∃f',f=f'+1:=⟨f-1,by omega⟩
   rw[dP,if_neg (by decide),ih p f d h1 (by omega) (rQ h2 hb (.inr (.inl U))) hd (by omega)]
   dsimp only
   rw[eU h2 hb (by decide),if_pos (oh h3 (by decide))]
   rw[show JJ (.mk 4 0 ⟨#[]⟩ [] acc) v=.mk 4 0 ⟨#[]⟩ [] (acc++[v]) from rfl]
   congr 1;omega
 | @cons n v l b b' vs l' h hb hb' t ih Wx=>
   intro p f d acc hh hd hf
   simp only[List.length_cons,List.length_append] at hf⊢
   obtain⟨x,r,hl,hx⟩:=h.head
   obtain⟨x',r',hl',hx'⟩:=t.head
   obtain⟨h1,h2⟩:=hh.sp
   have h3:=h2.sp.2
   have h4:=h3.hd.2.2
   have h5:=h4.sp.2
   have hlt:=h1.lt (by rw[hl];simp)
   have hl0:0<l.length:=by rw[hl];simp
   obtain⟨f,rfl⟩:∃f',f=f'+1:=⟨f-1,by omega⟩
   rw[dP,if_neg (by decide),ih p f d h1 (by omega) (rQ h2 hb (.inl U)) hd (by omega)]
   dsimp only
   rw[eU h2 hb (by decide),if_neg (by rw[oI h3 (by decide)];decide),if_pos (oh h3 (by decide)),eU (show Here s _ (b'++x'::r') from by rw[<-hl'];exact h4) hb' hx'.bk]
   rw[show JJ (.mk 4 0 ⟨#[]⟩ [] acc) v=.mk 4 0 ⟨#[]⟩ [] (acc++[v]) from rfl]
   refine(Wx _ f d (acc++[v]) h5 hd (by omega)).trans<|?_
   rw[List.append_assoc]
   congr 1;omega
 | @SG n w key v l b b1 b2 hk hg hb1 hb2 h hb ih=>
   intro p f d hh hd hf
   simp only[List.length_cons,List.length_append,List.length_nil] at hf⊢
   obtain⟨x,r,hl,hx⟩:=h.head
   have hq:2<=(bl (dJ key)).length:=by rw[jZ];simp
   obtain⟨f,rfl⟩:∃f',f=f'+2:=⟨f-2,by omega⟩
   have hre:Here s (p+(bl (dJ key)).length+b1.length+1+b2.length+l.length) (b++[125]):=by
    have:=(((hh.sp.2).sp.2).hd.2.2).sp.2.sp.2
    simpa[Nat.add_assoc] using this
   obtain⟨e1,e2⟩:=DI (v:=v) f d hk hg hb1 hb2 hl hx hh (λp' hp' h6=>ih p' f d h6 (Nat.le_of_lt (h6.lt (by rw[hl];simp))) (rQ (r:=[]) (hp'▸hre) hb (.inr (.inr rfl))) hd (by omega))
   have h3:=e2.sp.2
   rw[dP,if_pos U,e1]
   dsimp only
   rw[eU e2 hb (by decide),if_pos (oh h3 (by decide))]
   congr 1;omega
 | @LJ n w key v r l b b1 b2 b' l' hk hg hb1 hb2 h hb hb' t ih Wx=>
   intro p f d hh hd hf
   simp only[List.length_cons,List.length_append] at hf⊢
   obtain⟨x,r,hl,hx⟩:=h.head
   obtain⟨x',r',hl',hx'⟩:=t.head
   have hq:2<=(bl (dJ key)).length:=by rw[jZ];simp
   obtain⟨f,rfl⟩:∃f',f=f'+2:=⟨f-2,by omega⟩
   have hre:Here s (p+(bl (dJ key)).length+b1.length+1+b2.length+l.length) (b++44::(b'++l')):=by
    have:=(((hh.sp.2).sp.2).hd.2.2).sp.2.sp.2
    simpa[Nat.add_assoc] using this
   obtain⟨e1,e2⟩:=DI (v:=v) f d hk hg hb1 hb2 hl hx hh (λp' hp' h6=>ih p' f d h6 (Nat.le_of_lt (h6.lt (by rw[hl];simp))) (rQ (r:=b'++l') (hp'▸hre) hb (.inl rfl)) hd (by omega))
   have h3:=e2.sp.2
   have h4:=h3.hd.2.2
   have h5:=h4.sp.2
   rw[dP,if_pos U,e1]
   dsimp only
   rw[eU e2 hb (by decide),if_neg (by rw[oI h3 (by decide)];decide),if_pos (oh h3 (by decide)),eU (show Here s _ (b'++x'::r') from by rw[<-hl'];exact h4) hb' hx'.bk]
   refine(Wx _ (f+1) d h5 hd (by omega)).trans<|?_
   congr 1;omega
theorem KQ:((List.range 128).all λn=>(q1 (UInt8.ofNat n)).all λy=>decide (y.toNat<128))=true:=by kernel_rfl
theorem Wy{x:UInt8}(h:x.toNat<128):∀y∈q1 x,y.toNat<128:=λy hy=>by
 have:=List.all_eq_true.1 (List.all_eq_true.1 KQ x.toNat (List.mem_range.2 h)) y (by
  rw[show UInt8.ofNat x.toNat=x from by simp];exact hy)
 exact of_decide_eq_true this
theorem PM:∀{l:List UInt8},(∀x∈l,x.toNat<128)->∀y∈qL l,y.toNat<128
 |[],_,y,hy=>by cases hy
 |x::l,h,y,hy=>by
  rw[Fy] at hy
  rcases List.mem_append.1 hy with hy|hy
  ·exact Wy (h x (List.mem_cons_self ..)) y hy
  ·exact PM (λz hz=>h z (List.mem_cons_of_mem _ hz)) y hy
theorem vz.q{l:List UInt8}(h:vz l):vz (qL l):=by
 induction h with
 |nil=>exact .nil
 |cons c r hc _ ih=>
  rw[Fz]
  rcases hc.kinds with ⟨x,rfl,hx⟩|⟨_,_,hb⟩
  ·exact(vz.OG (PM λy hy=>by rw[List.mem_singleton.1 hy];exact hx)).app ih
  ·rw[J9 hb];exact .cons c _ hc ih
theorem vz.quote{t:ByteArray}(h:nu t<0):vz (bl (dJ t)):=by
 rw[jZ]
 exact .cons [34] _ (sH (by decide)) ((((zA t).1 h).q).app (.cons [34] _ (sH (by decide)) .nil))
theorem qH.yL{b:List UInt8}(h:qH b):vz b:=.OG λx hx=>by
 have:=sI (h x hx)
 omega
theorem vz.one{x:UInt8}(hx:x.toNat<128){l:List UInt8}(h:vz l):vz (x::l):=.cons [x] l (sH hx) h
theorem tu.yL{v:V}{l:List UInt8}(h:tu v l):vz l:=by
 cases h with
 |null=>exact .OG (by decide)
 |yes=>exact .OG (by decide)
 |no=>exact .OG (by decide)
 |num n h0 h1=>
  refine .OG<|?_
  show∀x∈Lib.itoa n,x.toNat<128
  have hd:∀(u:Nat) (x:UInt8),x∈Lib.decDigits u->x.toNat<128:=λu x hx=>by
   have:=xk u x hx
   unfold xI at this
   omega
  unfold Lib.itoa
  split
  ·intro x hx
   rcases List.mem_cons.1 hx with rfl|hx
   ·decide
   ·exact hd _ x hx
  ·exact hd _
 |str t ht=>exact .quote ht
theorem Sp.yL{n:Nat}{t:Tok}{l:List UInt8}(h:Sp n t l):vz l:=by
 have ZW:vz [93]:=.OG (by decide)
 have e125:vz [125]:=.OG (by decide)
 induction h with
 |leaf h=>exact h.yL
 |DD hb=>exact .one (by decide) (hb.yL.app ZW)
 |list hb h ih=>exact .one (by decide) (hb.yL.app ih)
 |Ww hb=>exact .one (by decide) (hb.yL.app e125)
 |obj hb h ih=>exact .one (by decide) (hb.yL.app ih)
 |one h hb ih=>exact ih.app (hb.yL.app ZW)
 |cons h hb hb' t ih Wx=>exact ih.app (hb.yL.app (.one (by decide) (hb'.yL.app Wx)))
 |SG hk hg hb1 hb2 h hb ih=>exact(vz.quote hk).app (hb1.yL.app (.one (by decide) (hb2.yL.app (ih.app (hb.yL.app e125)))))
 |LJ hk hg hb1 hb2 h hb hb' t ih Wx=>exact(vz.quote hk).app (hb1.yL.app (.one (by decide) (hb2.yL.app (ih.app (hb.yL.app (.one (by decide) (hb'.yL.app Wx)))))))
theorem Wz{v:V}{n:Nat}{l b r:List UInt8}(h:Sp n (.val v) l)(hn:n<=32)(hb:qH b){s:ByteArray}(hs:bl s=b++(l++r))(ha:RJ s (b.length+l.length)):fQ s (4*s.size+8) (aC s 0) 0=.ok (b.length+l.length) v:=by
 obtain⟨x,r',hl,hx⟩:=h.head
 have hh:Here s 0 (b++(l++r)):=⟨[],by rw[List.drop_zero,hs,List.append_nil]⟩
 have h2:=hh.sp.2
 rw[Nat.zero_add] at h2
 have hlen:s.size=b.length+(l.length+r.length):=by rw[<-iq,hs,List.length_append,List.length_append]
 have hk:aC s 0=b.length:=by
  have:=eU (show Here s 0 (b++x::(r'++r)) from by rw[hl] at hh;exact hh) hb hx.bk
  rw[this,Nat.zero_add]
 rw[hk]
 exact h.tell s b.length _ 0 h2.sp.1 (by omega) ha (by omega) (by omega)
theorem BH{v:V}{n:Nat}{l b b':List UInt8}(h:Sp n (.val v) l)(hn:n<=32)(hb:qH b)(hb':qH b'){s:ByteArray}(hs:bl s=b++(l++b'))(hz:s.size<=65536):eT s=(v,0,0):=by
 have hlen:s.size=b.length+(l.length+b'.length):=by rw[<-iq,hs,List.length_append,List.length_append]
 have hdr:(bl s).drop (b.length+l.length)=b':=by
  rw[hs,<-List.append_assoc,List.drop_left' (by rw[List.length_append])]
 have ha:RJ s (b.length+l.length):=λhlt=>by
  cases hc:b' with
  |nil=>rw[hc] at hlen;simp at hlen;omega
  |cons y r=>
   obtain⟨_,h2,_⟩:=(show Here s (b.length+l.length) (y::r) from⟨[],by rw[hdr,hc,List.append_nil]⟩).hd
   rw[h2]
   exact .inr (.inr (.inr (hb' y (by rw[hc];exact List.mem_cons_self ..))))
 have hck:nu s<0:=by
  rw[zA,hs]
  exact hb.yL.app (h.yL.app hb'.yL)
 unfold eT
 rw[if_neg (by omega),if_neg (by omega),Wz h hn hb hs ha]
 dsimp only
 rw[IG hdr (by omega) hb',if_neg (Nat.lt_irrefl _)]
def known1:ByteArray:=⟨#[123,34,98,34,58,49,44,32,34,97,34,58,91,93,125]⟩
def iN:ByteArray:=⟨#[91,49,44,93]⟩
def BI:ByteArray:=⟨#[91,32,93]⟩
def BJ:ByteArray:=⟨#[91,93]⟩
def yC:V:=.mk 5 0 ⟨#[]⟩ [⟨#[97]⟩,⟨#[98]⟩] [.mk 4 0 ⟨#[]⟩ [] [],qO 1]
theorem FV{s:ByteArray}(h:((bl s).all λx=>decide (x.toNat<128))=true):nu s<0:=by
 rw[zA]
 exact .OG λx hx=>of_decide_eq_true (List.all_eq_true.1 h x hx)
theorem xD:eT known1=(yC,0,0):=by
 have hb:qH [32]:=λx hx=>by rw[List.mem_singleton.1 hx];decide
 have e1:Lib.itoa 1=[49]:=by kernel_rfl
 have hl:tu (qO 1) [49]:=by have:=tu.num 1 (by decide) (by decide);rwa [show bl (kI 1)=[49] from e1] at this
 have h:=Sp.obj (n:=1) (b:=[]) qH.nil (.LJ (n:=1) (w:=.mk 5 0 ⟨#[]⟩ [] []) (key:=⟨#[98]⟩) (b1:=[]) (b2:=[]) (b:=[]) (b':=[32]) (FV (by decide)) (by decide) .nil .nil (.leaf hl) .nil hb
  (.SG (key:=⟨#[97]⟩) (b1:=[]) (b2:=[]) (b:=[]) (FV (by decide)) (by kernel_rfl) .nil .nil (.DD (n:=0) qH.nil) .nil))
 have:=BH h (by decide) qH.nil qH.nil (s:=known1) (by kernel_rfl) (by decide)
 rw[this]
 exact congrArg (λv=>(v,(0:Int),(0:Int))) (show _=yC from by kernel_rfl)
theorem FW:eT iN=(zeroV,11,3):=by
 have e1:Lib.itoa 1=[49]:=by kernel_rfl
 have hl:tu (qO 1) [49]:=by have:=tu.num 1 (by decide) (by decide);rwa [show bl (kI 1)=[49] from e1] at this
 have hh:Here iN 0 [91,49,44,93]:=⟨[],rfl⟩
 have h1:Here iN 1 [49,44,93]:=⟨[],rfl⟩
 have h2:Here iN 2 [44,93]:=⟨[],rfl⟩
 have h3:Here iN 3 [93]:=⟨[],rfl⟩
 have k0:aC iN 0=0:=eU (b:=[]) hh .nil (by decide)
 have k2:aC iN 2=2:=eU (b:=[]) h2 .nil (by decide)
 have k3:aC iN 3=3:=eU (b:=[]) h3 .nil (by decide)
 have hz:iN.size=4:=rfl
 have e2:fQ iN 21 1 1=.ok 2 (qO 1):=hl.tell (s:=iN) (p:=1) 20 1 ⟨[44,93],rfl⟩ (by decide) (rQ (b:=[]) h2 .nil (.inl U))
 have e3:fQ iN 24 0 0=dP iN 22 1 1 false (qP false):=(yB (b:=[]) (l:=[49,44,93]) 22 0 false (c:=91) (by decide) hh .nil U (PL (by unfold xI;decide)) (by decide)).1
 have e4:fQ iN 20 3 1=.err 11 3:=by
  rw[xC h3 19 1 (by decide) (by decide) (by decide) (by decide) (by unfold xI;decide)]
  unfold eG
  rw[o7 h3 (w:=gU) U (by decide),o7 h3 (w:=iH) U (by decide),o7 h3 (w:=fI) U (by decide)]
  rfl
 have e5:dP iN 22 1 1 false (qP false)=.err 11 3:=by
  rw[dP,if_neg (by decide),e2]
  dsimp only
  rw[k2,if_neg (by rw[oI h2 (by decide)];decide),if_pos (oh h2 (by decide)),k3,dP,if_neg (by decide),e4]
 unfold eT
 rw[if_neg (by decide),if_neg (by have:=FV (s:=iN) (by decide);omega),k0,hz]
 rw[show 4*4+8=24 from rfl,e3,e5]
 rfl
theorem FX:eT BI=(.mk 4 0 ⟨#[]⟩ [] [],0,0):=by
 have hb:qH [32]:=λx hx=>by rw[List.mem_singleton.1 hx];decide
 exact BH (.DD (n:=0) hb) (by decide) qH.nil qH.nil (s:=BI) (by kernel_rfl) (by decide)
theorem FY:eT BJ=(.mk 4 0 ⟨#[]⟩ [] [],0,0):=
 BH (.DD (n:=0) (b:=[]) qH.nil) (by decide) qH.nil qH.nil (s:=BJ) (by kernel_rfl) (by decide)
theorem II(a:ByteArray):Jo a a=true:=by unfold Jo;simp
theorem DJ{α:Type}{f:α->α->Bool}(l:List α)(h:∀a∈l,f a a=true):x8 f l l=true:=
 si U λi h1 _=>h _ (List.getElem_mem h1)
theorem Nj(x:V)(hx:Fits x):nP x x=true:=by
 induction hx with
 |mk k n t ks vs h1 h2 h ih=>
 rw[nP,oW,DJ _ ih,DJ _ (λa _=>II a),II]
 simp
theorem TR(s:ByteArray):∀f,(∀p d e q,fQ s f p d=.err e q->0<=e/\e<=14)/\(∀p d ob e q,gJ s f p d ob=.err e q->0<=e/\e<=14)/\
 (∀p d ob w e q,dP s f p d ob w=.err e q->0<=e/\e<=14)/\(∀p d w e q,gM s f p d w=.err e q->0<=e/\e<=14)
 |0=>⟨(λp d e q h=>by rw[fQ] at h;cases h;decide),(λp d ob e q h=>by rw[gJ] at h;cases h;decide),(λp d ob w e q h=>by rw[dP] at h;cases h;decide),(λp d w e q h=>by rw[gM] at h;cases h;decide)⟩
 |f+1=>by
  obtain⟨iv,im,il,ip⟩:=TR s f
  refine⟨λp d e q h=>?_,λp d ob e q h=>?_,λp d ob w e q h=>?_,λp d w e q h=>?_⟩
  ·rw[fQ] at h
   split at h
   ·split at h
    ·cases h;decide
    ·exact im _ _ _ _ _ h
   ·split at h
    ·split at h
     ·cases h;decide
     ·cases h
    ·split at h
     ·rcases Hl h with rfl|rfl<;>decide
     ·have:=CW h;subst this;decide
  ·rw[gJ] at h
   split at h
   ·cases h
   ·exact il _ _ _ _ _ _ h
  ·rw[dP] at h
   split at h
   ·rename_i e q1 he
    cases h
    split at he
    ·exact ip _ _ _ _ _ he
    ·split at he
     ·rename_i hv;cases he;exact iv _ _ _ _ hv
     ·cases he
   ·split at h
    ·cases h
    ·split at h
     ·exact il _ _ _ _ _ _ h
     ·cases h;decide
  ·rw[gM] at h
   split at h
   ·cases h;decide
   ·split at h
    ·cases h;decide
    ·split at h
     ·split at h
      ·rename_i hv;cases h;exact iv _ _ _ _ hv
      ·cases h
     ·cases h;decide
theorem SH(s:ByteArray):0<=(eT s).2.1/\(eT s).2.1<=14:=by
 unfold eT
 split
 ·exact⟨by show(0:Int)<=3;decide,by show(3:Int)<=14;decide⟩
 ·split
  ·exact⟨by show(0:Int)<=10;decide,by show(10:Int)<=14;decide⟩
  ·split
   ·rename_i e p h
    exact(TR s _).1 _ _ _ _ h
   ·split
    ·exact⟨by show(0:Int)<=11;decide,by show(11:Int)<=14;decide⟩
    ·exact⟨by show(0:Int)<=0;decide,by show(0:Int)<=14;decide⟩
def yD(L:List ByteArray)(c:List Int):Nat->ByteArray
 |0=>⟨#[]⟩
 |k+1=>yD L c k++L.getD ((c.getD k 0).tmod (L.length:Int)).toNat ⟨#[]⟩
theorem sU(L:List ByteArray)(c:List Int)(m:Nat)(hL:∀s∈L,s.size<=m):∀k,(yD L c k).size<=m*k
 |0=>Nat.zero_le _
 |k+1=>by
  have h1:=sU L c m hL k
  have h2:∀i,(L.getD i ⟨#[]⟩).size<=m:=λi=>by
   by_cases h:i<L.length
   ·rw[getD_at h];exact hL _ (List.getElem_mem h)
   ·rw[show L.getD i ⟨#[]⟩=⟨#[]⟩ from by unfold List.getD;rw[List.getElem?_eq_none (Nat.le_of_not_lt h)];rfl]
    exact Nat.zero_le _
  have h2:=h2 ((c.getD k 0).tmod (L.length:Int)).toNat
  show(yD L c k++L.getD ((c.getD k 0).tmod (L.length:Int)).toNat ⟨#[]⟩).size<=_
  rw[ByteArray.size_append,Nat.mul_succ];omega
def zi:List ByteArray:=[⟨#[97]⟩,⟨#[92,110]⟩,⟨#[92,117,48,48,52,49]⟩,⟨#[92,117,100,56,51,100]⟩,⟨#[92,117,100,101,48,48]⟩,⟨#[92,117,48,48,69,57]⟩,⟨#[92,34]⟩,⟨#[92,92]⟩,⟨#[92,47]⟩,⟨#[92,120]⟩,⟨#[92,117,49,50]⟩,⟨#[10]⟩,⟨#[195,169]⟩,⟨#[255]⟩,⟨#[92,117,68,66,70,70,92,117,68,70,70,70]⟩,⟨#[34]⟩]
theorem LK:∀s∈zi,s.size<=12:=by decide
def DK(c:List Int):ByteArray:=yD zi c (min c.length 30)
theorem PN(c:List Int)(hc:BR c)(H:Hp):F Tryz.prog 15 [xH c] H (bn H (.v (.string (DK c)))):=by
 have BM:(c.map wX).length=c.length:=List.length_map ..
 refine aA (n:=31) (H0:=H) (M:=[]) Tryz.func15 (by kernel_rfl) U (by rw[Tryz.ntmps15];rfl) .nil<|?_
 refine Q.rg<|Q.as U<|Q.nt<|Q.rg<|S.qu (Z.bl iM U U (dx U))<|Q.as U<|Q.nt<|Q.rg<|Q.as U<|Q.nt<|S.sq<|Q.rg<|Q.as U<|Q.nt<|UW.block<|S.loop (λj:Nat=>[(5,.v (.int .i64 (j:Int))),(4,.v (.string (yD zi c j))),(3,strs zi),(0,xH c)]) (λ_=>[]) (λj=>j<=c.length/\j<=30) (λj=>30-j) 0 ⟨Nat.zero_le _,Nat.zero_le _⟩ ⟨rfl,rfl,rfl,rfl,trivial⟩ (.refl _)<|?_
 rintro j ⟨hj,Xj⟩
 by_cases hlt:j<c.length
 ·by_cases hl4:j<30
  ·have hgl:=zw c j hlt
   have hb:=hc _ (List.getElem_mem hlt)
   have hm0:0<=(c[j]).tmod 16:=Int.tmod_nonneg _ hb.1
   have hm1:(c[j]).tmod 16<16:=Int.tmod_lt_of_pos _ (by decide)
   have hg2:=gT zi ((c[j]).tmod 16).toNat (by show _<16;omega)
   have hs1:=sU zi c 12 LK j
   have hs2:=LK _ (List.getElem_mem (show((c[j]).tmod 16).toNat<zi.length from by show _<16;omega))
   have e1:zi.getD ((c[j]).tmod 16).toNat ⟨#[]⟩=zi[((c[j]).tmod 16).toNat]'(by show _<16;omega):=getD_at _
   have e2:c.getD j 0=c[j]:=getD_at hlt
   focus
    refine S.sq<|Q.rg<|Q.mv U<|Q.mv U<|S.qu (Z.iy jf U)<|Q.bi U U U<|Q.mv U<|?_
    refine S.tD 11 (λiQ=>?_) (λiQ=>?_)
    rotate_left
    omega
    refine Q.on (Z.mv U)<|Q.on (Z.bi U U U)<|Q.pk U U<|Q.nt<|S.cT U (decide_eq_true (by omega))<|UW.skip<|UQ.then<|S.sq<|UW.block<|S.rg<|Q.mv U<|Q.mv U<|Q.mv U<|Q.mv U<|S.qu (Z.ia jf U U (by omega) (by assumption) (by rfl))<|?_
    refine S.qu (Z.lF L6 U)<|S.qu (Z.cv Tryz.underlying3 U (IntWalk.i64_in _ (by omega)) (by rw[Tryz.underlying5];rfl))<|?_
    refine Q.mv U<|S.qu (Z.iy bS U)<|S.qu (Z.eq (u':=.v (.int .i64 ((c[j]).tmod 16))) (Z.bi U U U) U)<|S.qu (Z.ia bS U U (by omega) (by assumption) (by rfl))<|?_
    refine S.qu (Z.lF fJ U)<|S.qu (Z.eq (u':=.v (.string (yD zi c (j+1)))) (Z.cat U U (by omega)) (by rw[<-e1,<-e2];rfl))<|?_
    refine Q.as U<|US.nil<|UQ.aI<|UQ.then<|S.rg<|Q.mv U<|S.qu (Z.add (r:=((j+1:Nat):Int)) U U (IntWalk.i64_in _ (by omega)))<|Q.as U<|US.nil<|?_
    refine S.back _ ⟨rfl,rfl,rfl,rfl,trivial⟩ (.refl _) (by omega) (by omega)
  ·focus
    refine S.sq<|Q.rg<|Q.mv U<|Q.mv U<|S.qu (Z.iy jf U)<|Q.bi U U U<|Q.mv U<|?_
    refine S.tD 11 (λiQ=>?_) (λiQ=>?_)
    rotate_left
    omega
    refine Q.on (Z.mv U)<|Q.on (Z.bi U U U)<|Q.pk U U<|Q.nt<|S.cF U (decide_eq_false (by omega))<|UW.exit<|UQ.pass<|UQ.pass<|UQ.here<|UQ.then<|Q.rg<|Q.mv U<|Q.as U<|Q.nt<|UW.ret<|S.bG (λ_=>au U U)<|?_
    focus (rw[show DK c=yD zi c j from by unfold DK;congr 1;omega];done)
 ·refine S.sq<|Q.rg<|Q.mv U<|Q.mv U<|S.qu (Z.iy jf U)<|Q.bi U U U<|Q.mv U<|?_
  refine S.tD 11 (λiQ=>?_) (λiQ=>?_)
  omega
  refine Q.of<|Q.of<|Q.pk U U<|Q.nt<|S.cF U U<|UW.exit<|UQ.pass<|UQ.pass<|UQ.here<|UQ.then<|Q.rg<|Q.mv U<|Q.as U<|Q.nt<|UW.ret<|S.bG (λ_=>au U U)<|?_
  focus (rw[show DK c=yD zi c j from by unfold DK;congr 1;omega];done)
def yE:List ByteArray:=[⟨#[123]⟩,⟨#[125]⟩,⟨#[91]⟩,⟨#[93]⟩,⟨#[44]⟩,⟨#[58]⟩,⟨#[34,97,34]⟩,⟨#[34,98,34]⟩,⟨#[49]⟩,⟨#[45,48]⟩,⟨#[48,49]⟩,⟨#[110,117,108,108]⟩,⟨#[116,114,117,101]⟩,⟨#[102,97,108,115,101]⟩,⟨#[32]⟩,⟨#[10]⟩,⟨#[57,48,48,55,49,57,57,50,53,52,55,52,48,57,57,50]⟩,⟨#[45,57,48,48,55,49,57,57,50,53,52,55,52,48,57,57,49]⟩,⟨#[49,46,53]⟩,⟨#[49,101,51]⟩,⟨#[34,92,117,48,48,101,57,34]⟩,⟨#[110,117,108]⟩,⟨#[34]⟩,⟨#[45]⟩,⟨#[195,169]⟩,⟨#[123,34,97,34,58,49,44,34,97,34,58,50,125]⟩,⟨#[123,34,97,34,58,91,49,44,50,93,125]⟩,⟨#[50,69,49]⟩]
theorem FZ:∀s∈yE,s.size<=17:=by decide
def y5(c:List Int):ByteArray:=yD yE c (min c.length 40)
theorem KR(c:List Int):(y5 c).size<=680:=by have:=sU yE c 17 FZ (min c.length 40);unfold y5;omega
theorem PO(c:List Int)(hc:BR c)(H:Hp):F Tryz.prog 14 [xH c] H (bn H (.v (.string (y5 c)))):=by
 have BM:(c.map wX).length=c.length:=List.length_map ..
 refine aA (n:=31) (H0:=H) (M:=[]) Tryz.func14 (by kernel_rfl) U (by rw[Tryz.ntmps14];rfl) .nil<|?_
 refine Q.rg<|Q.as U<|Q.nt<|Q.rg<|S.qu (Z.bl iM U U (dx U))<|Q.as U<|Q.nt<|Q.rg<|Q.as U<|Q.nt<|S.sq<|Q.rg<|Q.as U<|Q.nt<|UW.block<|S.loop (λj:Nat=>[(5,.v (.int .i64 (j:Int))),(4,.v (.string (yD yE c j))),(3,strs yE),(0,xH c)]) (λ_=>[]) (λj=>j<=c.length/\j<=40) (λj=>40-j) 0 ⟨Nat.zero_le _,Nat.zero_le _⟩ ⟨rfl,rfl,rfl,rfl,trivial⟩ (.refl _)<|?_
 rintro j ⟨hj,Xj⟩
 by_cases hlt:j<c.length
 ·by_cases hl4:j<40
  ·have hgl:=zw c j hlt
   have hb:=hc _ (List.getElem_mem hlt)
   have hm0:0<=(c[j]).tmod 28:=Int.tmod_nonneg _ hb.1
   have hm1:(c[j]).tmod 28<28:=Int.tmod_lt_of_pos _ (by decide)
   have hg2:=gT yE ((c[j]).tmod 28).toNat (by show _<28;omega)
   have hs1:=sU yE c 17 FZ j
   have hs2:=FZ _ (List.getElem_mem (show((c[j]).tmod 28).toNat<yE.length from by show _<28;omega))
   have e1:yE.getD ((c[j]).tmod 28).toNat ⟨#[]⟩=yE[((c[j]).tmod 28).toNat]'(by show _<28;omega):=getD_at _
   have e2:c.getD j 0=c[j]:=getD_at hlt
   focus
    refine S.sq<|Q.rg<|Q.mv U<|Q.mv U<|S.qu (Z.iy jf U)<|Q.bi U U U<|Q.mv U<|?_
    refine S.tD 11 (λiQ=>?_) (λiQ=>?_)
    rotate_left
    omega
    refine Q.on (Z.mv U)<|Q.on (Z.bi U U U)<|Q.pk U U<|Q.nt<|S.cT U (decide_eq_true (by omega))<|UW.skip<|UQ.then<|S.sq<|UW.block<|S.rg<|Q.mv U<|Q.mv U<|Q.mv U<|Q.mv U<|S.qu (Z.ia jf U U (by omega) (by assumption) (by rfl))<|?_
    refine S.qu (Z.lF L6 U)<|S.qu (Z.cv Tryz.underlying3 U (IntWalk.i64_in _ (by omega)) (by rw[Tryz.underlying5];rfl))<|?_
    refine Q.mv U<|S.qu (Z.iy bS U)<|S.qu (Z.eq (u':=.v (.int .i64 ((c[j]).tmod 28))) (Z.bi U U U) U)<|S.qu (Z.ia bS U U (by omega) (by assumption) (by rfl))<|?_
    refine S.qu (Z.lF fJ U)<|S.qu (Z.eq (u':=.v (.string (yD yE c (j+1)))) (Z.cat U U (by omega)) (by rw[<-e1,<-e2];rfl))<|?_
    refine Q.as U<|US.nil<|UQ.aI<|UQ.then<|S.rg<|Q.mv U<|S.qu (Z.add (r:=((j+1:Nat):Int)) U U (IntWalk.i64_in _ (by omega)))<|Q.as U<|US.nil<|?_
    refine S.back _ ⟨rfl,rfl,rfl,rfl,trivial⟩ (.refl _) (by omega) (by omega)
  ·focus
    refine S.sq<|Q.rg<|Q.mv U<|Q.mv U<|S.qu (Z.iy jf U)<|Q.bi U U U<|Q.mv U<|?_
    refine S.tD 11 (λiQ=>?_) (λiQ=>?_)
    rotate_left
    omega
    refine Q.on (Z.mv U)<|Q.on (Z.bi U U U)<|Q.pk U U<|Q.nt<|S.cF U (decide_eq_false (by omega))<|UW.exit<|UQ.pass<|UQ.pass<|UQ.here<|UQ.then<|Q.rg<|Q.mv U<|Q.as U<|Q.nt<|UW.ret<|S.bG (λ_=>au U U)<|?_
    focus (rw[show y5 c=yD yE c j from by unfold y5;congr 1;omega];done)
 ·refine S.sq<|Q.rg<|Q.mv U<|Q.mv U<|S.qu (Z.iy jf U)<|Q.bi U U U<|Q.mv U<|?_
  refine S.tD 11 (λiQ=>?_) (λiQ=>?_)
  omega
  refine Q.of<|Q.of<|Q.pk U U<|Q.nt<|S.cF U U<|UW.exit<|UQ.pass<|UQ.pass<|UQ.here<|UQ.then<|Q.rg<|Q.mv U<|Q.as U<|Q.nt<|UW.ret<|S.bG (λ_=>au U U)<|?_
  focus (rw[show y5 c=yD yE c j from by unfold y5;congr 1;omega];done)
end Go.Proofs.YtbooeongacgnbaaGreatDoor
end
