/- A part of the proof. -/
import Derived.WalkKit
import Derived.Laws.AppendOwn
import Derived.Laws.OwnMore
import Derived.Laws.Cells
import Derived.Laws.Tables
import Derived.Below
import Derived.KernelRfl
theorem Go.U.{u}{α:Sort u}{a:α}:a=a:=rfl
set_option maxRecDepth 100000
set_option maxHeartbeats 4000000
set_option linter.unusedSectionVars false
set_option linter.unusedVariables false
set_option linter.unusedSimpArgs false
section
namespace Go.fT
open Go Go.RowKit
inductive AV where
 |any
 |v (x:Value)
 |agg (l:List AV)
 |kM (l:List AV)
 |sl (rows:List (List AV))
 |own (id off len sz:Nat)
 |ptr (id off:Nat)
 |rp (cells:List AV)
 |gN (f:Nat) (bS:List AV)
 |Zp (t:Nat) (u:AV)
 |KE (id off len:Nat)
 |mpr (id:Nat)
 deriving Inhabited
abbrev gz:=Nat->Option Value
def blk:Value->Option Nat
 | .pointer (some a)=>some a.block
 | .slice (some a) _ _=>some a.block
 | .map (some g)=>some g
 |_=>none
inductive dU (ok:Nat->Prop) (ρ:gz) (w:World):AV->Value->Prop
 |any (x:Value):dU ok ρ w .any x
 |v (x:Value):dU ok ρ w (.v x) x
 |agg (l:List AV) (vs:List Value) (h:l.length=vs.length) (hr:∀(j:Nat) (u:AV) (x:Value),l[j]? =some u->vs[j]? =some x->dU ok ρ w u x):dU ok ρ w (.agg l) (.agg vs.toArray)
 |kM (l:List AV) (vs:List Value) (h:l.length=vs.length) (hr:∀(j:Nat) (u:AV) (x:Value),l[j]? =some u->vs[j]? =some x->dU ok ρ w u x):dU ok ρ w (.kM l) (.tuple vs.toArray)
 |nil:dU ok ρ w (.sl []) (.slice none 0 0)
 |sl (rows:List (List AV)) (a:Addr) (cap sz:Nat) (vals:Nat->Nat->Value) (hcap:rows.length<=cap) (hmax:cap<=maxLen)
   (hok:rows≠[]->ok a.block/\a.block<w.heap.size) (hsz:∀cs∈rows,cs.length=sz)
   (hc:∀(i:Nat) (cs:List AV) (j:Nat),rows[i]? =some cs->j<cs.length->w.cell? (a.add (i*sz+j))=some (vals i j)/\(vals i j).oneCell'=true)
   (hr:∀(i:Nat) (cs:List AV) (j:Nat) (u:AV),rows[i]? =some cs->cs[j]? =some u->dU ok ρ w u (vals i j)):dU ok ρ w (.sl rows) (.slice (some a) rows.length cap)
 |rp (cells:List AV) (a:Addr) (vals:Nat->Value) (hok:cells≠[]->ok a.block/\a.block<w.heap.size)
   (hc:∀j,j<cells.length->w.cell? (a.add j)=some (vals j)/\(vals j).oneCell'=true)
   (hr:∀(j:Nat) (u:AV),cells[j]? =some u->dU ok ρ w u (vals j)):dU ok ρ w (.rp cells) (.pointer (some a))
 |lW (id sz:Nat) (h:ρ id=some (.slice none 0 0)):dU ok ρ w (.own id 0 0 sz) (.slice none 0 0)
 |own (id off len sz g n cap:Nat) (h:ρ id=some (.slice (some ⟨g,0,none⟩) n cap)) (hle:off+len<=cap) (hmax:cap<=maxLen):dU ok ρ w (.own id off len sz) (.slice (some ⟨g,off*sz,none⟩) len (cap-off))
 |nP (id off sz g n cap off' cap':Nat) (h:ρ id=some (.slice (some ⟨g,0,none⟩) n cap)) (h0:off≠0) (hm:cap'<=maxLen):dU ok ρ w (.own id off 0 sz) (.slice (some ⟨g,off',none⟩) 0 cap')
 |ptr (id off g:Nat) (x:Value) (h:ρ id=some x) (hx:x=.pointer (some ⟨g,0,none⟩)\/∃n cap,x=.slice (some ⟨g,0,none⟩) n cap):dU ok ρ w (.ptr id off) (.pointer (some ⟨g,off,none⟩))
 |gN (f:Nat) (bS:List AV) (vs:List Value) (h:bS.length=vs.length) (hr:∀(j:Nat) (u:AV) (x:Value),bS[j]? =some u->vs[j]? =some x->dU ok ρ w u x):dU ok ρ w (.gN f bS) (.func (.func f) #[] vs.toArray)
 |Zp (t:Nat) (u:AV) (x:Value) (h:dU ok ρ w u x):dU ok ρ w (.Zp t u) (.iface t x)
 |KE (id off len g cap:Nat) (h:ρ id=some (.pointer (some ⟨g,0,none⟩))) (hl:len<=cap) (hm:cap<=maxLen):dU ok ρ w (.KE id off len) (.slice (some ⟨g,off,none⟩) len cap)
 |mpr (id g:Nat) (h:ρ id=some (.map (some g))):dU ok ρ w (.mpr id) (.map (some g))
theorem cell_of_heap{w w':World}{a:Addr}(h:w'.heap[a.block]? =w.heap[a.block]?):w'.cell? a=w.cell? a:=by
 simp[World.cell?,h]
theorem add_block(a:Addr)(n:Nat):(a.add n).block=a.block:=by unfold Addr.add;split<;>rfl
theorem add_add(a:Addr)(m n:Nat):(a.add m).add n=a.add (m+n):=by
 unfold Addr.add
 by_cases h1:m=0
 ·subst h1;simp
 ·by_cases h2:n=0
  ·subst h2;simp[h1]
  ·simp[h1,h2,Nat.add_assoc]
theorem add_plain(g o j:Nat):(⟨g,o,none⟩:Addr).add j=⟨g,o+j,none⟩:=by unfold Addr.add;split<;>simp_all
theorem dU.mono{ok ok':Nat->Prop}{ρ ρ':gz}{w w':World}{u:AV}{x:Value}(h:dU ok ρ w u x)
 (hk:∀k,ok k->k<w.heap.size->ok' k/\w'.heap[k]? =w.heap[k]?) (hρ:∀id v,ρ id=some v->ρ' id=some v):dU ok' ρ' w' u x:=by
 induction h with
 |any x=>exact .any x
 |v x=>exact .v x
 |agg l vs h hr ih=>exact .agg l vs h (λj u x h1 h2=>ih j u x h1 h2)
 |kM l vs h hr ih=>exact .kM l vs h (λj u x h1 h2=>ih j u x h1 h2)
 |nil=>exact .nil
 |sl rows a cap sz vals hcap hmax hok hsz hc hr ih=>
  have hb:rows≠[]->ok' a.block/\w'.heap[a.block]? =w.heap[a.block]? /\a.block<w.heap.size:=λhn=>⟨(hk _ (hok hn).1 (hok hn).2).1,(hk _ (hok hn).1 (hok hn).2).2,(hok hn).2⟩
  have hne:∀{i:Nat} {cs:List AV},rows[i]? =some cs->rows≠[]:=λhi he=>by rw[he] at hi;simp at hi
  refine .sl rows a cap sz vals hcap hmax (λhn=>⟨(hb hn).1,?_⟩) hsz (λi cs j hi hj=>?_) (λi cs j u hi hj=>ih i cs j u hi hj)
  ·have h1:=(hb hn).2.1
   rw[Array.getElem?_eq_getElem (hb hn).2.2] at h1
   exact(Array.getElem?_eq_some_iff.1 h1).1
  ·rw[cell_of_heap (w:=w) (w':=w') (by rw[add_block];exact(hb (hne hi)).2.1)]
   exact hc i cs j hi hj
 |rp cells a vals hok hc hr ih=>
  have hb:cells≠[]->ok' a.block/\w'.heap[a.block]? =w.heap[a.block]? /\a.block<w.heap.size:=λhn=>⟨(hk _ (hok hn).1 (hok hn).2).1,(hk _ (hok hn).1 (hok hn).2).2,(hok hn).2⟩
  refine .rp cells a vals (λhn=>⟨(hb hn).1,?_⟩) (λj hj=>?_) (λj u hj=>ih j u hj)
  ·have h1:=(hb hn).2.1
   rw[Array.getElem?_eq_getElem (hb hn).2.2] at h1
   exact(Array.getElem?_eq_some_iff.1 h1).1
  ·rw[cell_of_heap (w:=w) (w':=w') (by rw[add_block];exact(hb (λhe=>by rw[he] at hj;simp at hj)).2.1)]
   exact hc j hj
 |lW id sz h=>exact .lW id sz (hρ _ _ h)
 |own id off len sz g n cap h hle hmax=>exact .own id off len sz g n cap (hρ _ _ h) hle hmax
 |nP id off sz g n cap o' c' h h0 hm=>exact .nP id off sz g n cap o' c' (hρ _ _ h) h0 hm
 |ptr id off g x h hx=>exact .ptr id off g x (hρ _ _ h) hx
 |gN f bS vs h hr ih=>exact .gN f bS vs h (λj u x h1 h2=>ih j u x h1 h2)
 |Zp t u x h ih=>exact .Zp t u x ih
 |KE id off len g cap h hl hm=>exact .KE id off len g cap (hρ _ _ h) hl hm
 |mpr id g h=>exact .mpr id g (hρ _ _ h)
inductive Ob where
 |box (t:Nat) (cells:List AV)
 |row (e sz:Nat) (rows:List (List AV))
 |iter (s:ByteArray) (pos:Nat)
 |jA (e sz:Nat) (rows:List (List AV)) (c:Nat)
 |raw (g:Nat) (x:Obj)
 |mp (es:List (ByteArray×AV))
 |yE (mid n:Nat) (seen:List Nat)
 deriving Inhabited
abbrev Hp:=Nat->Option Ob
def Own(ρ:gz)(H:Hp)(k:Nat):Prop:=∃id ob v,H id=some ob/\ρ id=some v/\blk v=some k
def bF(ρ:gz)(H:Hp)(k:Nat):Prop:=¬Own ρ H k
def aX(ok:Nat->Prop)(ρ:gz)(w:World)(us:List AV)(xs:List Value):Prop:=
 us.length=xs.length/\∀(j:Nat) (u:AV) (x:Value),us[j]? =some u->xs[j]? =some x->dU ok ρ w u x/\x.oneCell'=true
def rF(ok:Nat->Prop)(ρ:gz)(w:World)(us:List AV)(xs:List Value):Prop:=
 us.length=xs.length/\∀(j:Nat) (u:AV) (x:Value),us[j]? =some u->xs[j]? =some x->dU ok ρ w u x
def SC(l:Array MapEntry)(uy:Nat):Prop:=(∀(i:Nat) (e:MapEntry),l[i]? =some e->e.born=i)/\uy=l.size
def nJ(ok:Nat->Prop)(ρ:gz)(w:World)(v:Value):Ob->Prop
 | .box t cells=>∃g vals,v=.pointer (some ⟨g,0,none⟩)/\w.heap[g]? =some (.cells (List.toArray vals) t (0,0))/\aX ok ρ w cells vals
 | .row e sz rows=>0<sz/\∃inner,w.ownsRow 0 e sz v rows.length inner/\(∀cs∈rows,cs.length=sz)/\aX ok ρ w rows.flatten inner
 | .iter s pos=>∃g,v=.pointer (some ⟨g,0,none⟩)/\w.heap[g]? =some (.stringIter s pos)
 | .jA e sz rows c=>0<sz/\∃g n inner cur,v=.slice (some ⟨g,0,none⟩) n c/\w.heap[g]? =some (.cells cur e (0,0))/\rows.length<=c/\c<=maxLen/\cur.size=c*sz/\cur.toList.take (rows.length*sz)=inner/\(∀cs∈rows,cs.length=sz)/\aX ok ρ w rows.flatten inner
 | .raw g x=>v=.bool true/\ok g/\w.heap[g]? =some x/\∃cs t f,x=.cells cs t f
 | .mp es=>∃g l uy,v=.map (some g)/\w.heap[g]? =some (.map l uy)/\l.toList.map (·.key)=es.map (λe=>Value.string e.1)/\rF ok ρ w (es.map (·.2)) (l.toList.map (·.val))/\SC l uy
 | .yE mid n seen=>∃g gm,v=.pointer (some ⟨g,0,none⟩)/\ρ mid=some (.map (some gm))/\w.heap[g]? =some (.mapIter (some gm) n (List.toArray seen) n)
structure dN(ρ:gz)(H:Hp)(w:World):Prop where
 ob:∀id ob,H id=some ob->∃v,ρ id=some v/\nJ (bF ρ H) ρ w v ob
 apart:∀id id' ob xc v v' k,H id=some ob->H id'=some xc->ρ id=some v->ρ id'=some v'->blk v=some k->blk v'=some k->id=id'
 room:∃B,∀id,B<=id->ρ id=none
 lt:∀id v k,ρ id=some v->blk v=some k->k<w.heap.size
structure Ext(ρ:gz)(H:Hp)(w:World)(ρ':gz)(H':Hp)(w':World):Prop where
 os:w'.os=w.os
 tape:w'.tape=w.tape
 output:w'.output=w.output
 size:w.heap.size<=w'.heap.size
 block:∀k,k<w.heap.size->¬Own ρ H k->w'.heap[k]? =w.heap[k]?
 own:∀k,Own ρ' H' k->Own ρ H k\/w.heap.size<=k
 KF:∀id v,ρ id=some v->ρ' id=some v
theorem Ext.refl(ρ:gz)(H:Hp)(w:World):Ext ρ H w ρ H w:=⟨rfl,rfl,rfl,Nat.le_refl _,λ_ _ _=>rfl,λ_ h=> .inl h,λ_ _ h=>h⟩
theorem Ext.trans{ρ Vn SE:gz}{H H1 H2:Hp}{w w1 w2:World}(a:Ext ρ H w Vn H1 w1)(b:Ext Vn H1 w1 SE H2 w2):Ext ρ H w SE H2 w2 where
 os:=b.os.trans a.os
 tape:=b.tape.trans a.tape
 output:=b.output.trans a.output
 size:=Nat.le_trans a.size b.size
 block k hk hn:=(b.block k (Nat.lt_of_lt_of_le hk a.size) (λho=>(a.own k ho).elim hn (λh=>by omega))).trans (a.block k hk hn)
 own k h:=(b.own k h).elim (λh1=>a.own k h1) (λh1=> .inr (Nat.le_trans a.size h1))
 KF id v h:=b.KF id v (a.KF id v h)
theorem Ext.rep{ρ ρ':gz}{H H':Hp}{w w':World}(e:Ext ρ H w ρ' H' w'){u:AV}{x:Value}(h:dU (bF ρ H) ρ w u x):dU (bF ρ' H') ρ' w' u x:=
 h.mono (λk hk hlt=>⟨λho=>(e.own k ho).elim hk (λh1=>by omega),e.block k hlt hk⟩) e.KF
theorem Ext.cells{ρ ρ':gz}{H H':Hp}{w w':World}(e:Ext ρ H w ρ' H' w'){us:List AV}{xs:List Value}(h:aX (bF ρ H) ρ w us xs):aX (bF ρ' H') ρ' w' us xs:=
 ⟨h.1,λj u x h1 h2=>⟨e.rep (h.2 j u x h1 h2).1,(h.2 j u x h1 h2).2⟩⟩
theorem Ext.vals{ρ ρ':gz}{H H':Hp}{w w':World}(e:Ext ρ H w ρ' H' w'){us:List AV}{xs:List Value}(h:rF (bF ρ H) ρ w us xs):rF (bF ρ' H') ρ' w' us xs:=
 ⟨h.1,λj u x h1 h2=>e.rep (h.2 j u x h1 h2)⟩
def Sub(H' H:Hp):Prop:=∀id ob,H' id=some ob->H id=some ob
theorem Hz{ρ:gz}{H H':Hp}(hs:Sub H' H){k:Nat}(h:Own ρ H' k):Own ρ H k:=by
 obtain⟨id,ob,v,h1,h2,h3⟩:=h
 exact⟨id,ob,v,hs _ _ h1,h2,h3⟩
theorem Ext.drop{ρ:gz}{H H':Hp}(hs:Sub H' H)(w:World):Ext ρ H w ρ H' w:=
 ⟨rfl,rfl,rfl,Nat.le_refl _,λ_ _ _=>rfl,λ_ h=> .inl (Hz hs h),λ_ _ h=>h⟩
theorem nJ.ext{ρ ρ':gz}{H H':Hp}{w w':World}(e:Ext ρ H w ρ' H' w'){v:Value}{ob:Ob}(hb:∀k,blk v=some k->w'.heap[k]? =w.heap[k]?)(h:nJ (bF ρ H) ρ w v ob):nJ (bF ρ' H') ρ' w' v ob:=by
 cases ob with
 |box t cells=>
  obtain⟨g,vals,rfl,hg,hr⟩:=h
  exact⟨g,vals,rfl,(hb g U).trans hg,e.cells hr⟩
 |row ee sz rows=>
  obtain⟨h0,inner,ho,hl,hr⟩:=h
  refine⟨h0,inner,⟨ho.1,?_⟩,hl,e.cells hr⟩
  rcases ho.2 with h2|⟨g,cap,cur,rfl,hg,hh,r⟩
  ·exact .inl h2
  ·exact .inr ⟨g,cap,cur,rfl,hg,(hb g U).trans hh,r⟩
 |iter s pos=>
  obtain⟨g,rfl,hg⟩:=h
  exact⟨g,rfl,(hb g U).trans hg⟩
 |jA ee sz rows c=>
  obtain⟨h0,g,n,inner,cur,rfl,hg,h1,h2,h3,h4,h5,hr⟩:=h
  exact⟨h0,g,n,inner,cur,rfl,(hb g U).trans hg,h1,h2,h3,h4,h5,e.cells hr⟩
 |raw g x=>
  obtain⟨rfl,hok,hg,hx⟩:=h
  have hlt:g<w.heap.size:=(Array.getElem?_eq_some_iff.1 hg).1
  exact⟨rfl,λho=>(e.own g ho).elim hok (λh1=>by omega),(e.block g hlt hok).trans hg,hx⟩
 |mp es=>
  obtain⟨g,l,uy,rfl,hg,h1,h2,h3⟩:=h
  exact⟨g,l,uy,rfl,(hb g U).trans hg,h1,e.vals h2,h3⟩
 |yE mid n seen=>
  obtain⟨g,gm,rfl,h1,hg⟩:=h
  exact⟨g,gm,rfl,e.KF _ _ h1,(hb g U).trans hg⟩
theorem dN.drop{ρ:gz}{H H':Hp}{w:World}(h:dN ρ H w)(hs:Sub H' H):dN ρ H' w where
 ob id ob hi:=by
  obtain⟨v,h1,h2⟩:=h.ob id ob (hs _ _ hi)
  exact⟨v,h1,h2.ext (Ext.drop hs w) (λ_ _=>rfl)⟩
 apart id id' ob xc v v' k a b c d e f:=h.apart id id' ob xc v v' k (hs _ _ a) (hs _ _ b) c d e f
 room:=h.room
 lt:=h.lt
def set{α:Type}(f:Nat->Option α)(i:Nat)(x:Option α):Nat->Option α:=λj=>if j=i then x else f j
@[simp] theorem set_self {α:Type} (f:Nat->Option α) (i:Nat) (x:Option α):set f i x i=x:=by simp[set]
theorem dM{α:Type}(f:Nat->Option α){i j:Nat}(x:Option α)(h:j≠i):set f i x j=f j:=by simp[set,h]
theorem dN.put{ρ:gz}{H:Hp}{w w':World}(h:dN ρ H w)(D:Nat->Prop)(id:Nat)(v:Value)(ob:Ob)
 (hos:w'.os=w.os) (CK:w'.tape=w.tape) (hout:w'.output=w.output) (hsize:w.heap.size<=w'.heap.size)
 (hfresh:ρ id=none\/ρ id=some v/\D id)
 (hch:∀k,k<w.heap.size->(∀d vd,D d->ρ d=some vd->blk vd≠some k)->w'.heap[k]? =w.heap[k]?)
 (hD:∀d,D d->∃o,H d=some o)
 (hv:∀k,blk v=some k->((∃d vd,D d/\ρ d=some vd/\blk vd=some k)\/w.heap.size<=k)/\k<w'.heap.size)
 (iD:∀ρ' H',Ext ρ H w ρ' H' w'->ρ' id=some v->nJ (bF ρ' H') ρ' w' v ob)
 (H':Hp) (hH:∀j,H' j=if j=id then some ob else H' j) (hH2:∀j,j≠id->∀o,H' j=some o->H j=some o/\¬D j):
 dN (set ρ id (some v)) H' w'/\Ext ρ H w (set ρ id (some v)) H' w':=by
 have hid:H' id=some ob:=by rw[hH id];simp
 have hrho:∀j vj,ρ j=some vj->set ρ id (some v) j=some vj:=by
  intro j vj hj
  by_cases hji:j=id
  ·subst hji
   rcases hfresh with h0|⟨h1,_⟩
   ·rw[h0] at hj;cases hj
   ·rw[set_self,<-h1,hj]
  ·rw[dM _ _ hji,hj]
 have hback:∀j vj,j≠id->set ρ id (some v) j=some vj->ρ j=some vj:=λj vj hj he=>by rwa [dM _ _ hj] at he
 have hown:∀k,Own (set ρ id (some v)) H' k->Own ρ H k\/w.heap.size<=k:=by
  rintro k ⟨j,o,vj,h1,h2,h3⟩
  by_cases hji:j=id
  ·subst hji
   rw[set_self] at h2
   cases h2
   rcases(hv k h3).1 with ⟨d,vd,hd,hrd,hbd⟩|h4
   ·obtain⟨o',ho'⟩:=hD d hd
    exact .inl ⟨d,o',vd,ho',hrd,hbd⟩
   ·exact .inr h4
  ·exact .inl ⟨j,o,vj,(hH2 j hji o h1).1,hback j vj hji h2,h3⟩
 have hE:Ext ρ H w (set ρ id (some v)) H' w':=by
  refine⟨hos,CK,hout,hsize,λk hk hn=>hch k hk (λd vd hd hrd hb=>hn ?_),hown,hrho⟩
  obtain⟨o,ho⟩:=hD d hd
  exact⟨d,o,vd,ho,hrd,hb⟩
 refine⟨⟨?_,?_,?_,?_⟩,hE⟩
 ·intro j o hj
  by_cases hji:j=id
  ·subst hji
   rw[hid] at hj
   cases hj
   exact⟨v,set_self _ _ _,iD _ _ hE (set_self _ _ _)⟩
  ·obtain⟨hHj,hnd⟩:=hH2 j hji o hj
   obtain⟨vj,h1,h2⟩:=h.ob j o hHj
   refine⟨vj,hrho j vj h1,h2.ext hE (λk hk=>hch k (h.lt j vj k h1 hk) (λd vd hd hrd hb=>hnd ?_))⟩
   obtain⟨od,hod⟩:=hD d hd
   have:=h.apart j d o od vj vd k hHj hod h1 hrd hk hb
   subst this
   exact hd
 ·intro j j' o o' vj vj' k a b c d e f
  by_cases hji:j=id
  ·by_cases Na:j'=id
   ·rw[hji,Na]
   ·exfalso
    subst hji
    rw[set_self] at c
    cases c
    obtain⟨hHj',hnd⟩:=hH2 j' Na o' b
    have d':=hback j' vj' Na d
    rcases(hv k e).1 with ⟨dd,vd,hd,hrd,hbd⟩|h4
    ·obtain⟨od,hod⟩:=hD dd hd
     have:=h.apart j' dd o' od vj' vd k hHj' hod d' hrd f hbd
     subst this
     exact hnd hd
    ·have:=h.lt j' vj' k d' f
     omega
  ·by_cases Na:j'=id
   ·exfalso
    subst Na
    rw[set_self] at d
    cases d
    obtain⟨hHj,hnd⟩:=hH2 j hji o a
    have c':=hback j vj hji c
    rcases(hv k f).1 with ⟨dd,vd,hd,hrd,hbd⟩|h4
    ·obtain⟨od,hod⟩:=hD dd hd
     have:=h.apart j dd o od vj vd k hHj hod c' hrd e hbd
     subst this
     exact hnd hd
    ·have:=h.lt j vj k c' e
     omega
   ·exact h.apart j j' o o' vj vj' k (hH2 j hji o a).1 (hH2 j' Na o' b).1 (hback j vj hji c) (hback j' vj' Na d) e f
 ·obtain⟨B,hB⟩:=h.room
  refine⟨max B (id+1),λj hj=>?_⟩
  rw[dM _ _ (by omega)]
  exact hB j (by omega)
 ·intro j vj k hj hk
  by_cases hji:j=id
  ·subst hji
   rw[set_self] at hj
   cases hj
   exact(hv k hk).2
  ·exact Nat.lt_of_lt_of_le (h.lt j vj k (hback j vj hji hj) hk) hsize
theorem dN.fresh{ρ:gz}{H:Hp}{w:World}(h:dN ρ H w):∃id,ρ id=none/\H id=none:=by
 obtain⟨B,hB⟩:=h.room
 refine⟨B,hB B (Nat.le_refl _),?_⟩
 cases hb:H B with
 |none=>rfl
 |some ob=>
  obtain⟨v,h1,_⟩:=h.ob B ob hb
  rw[hB B (Nat.le_refl _)] at h1
  cases h1
theorem dN.new{ρ:gz}{H:Hp}{w w':World}(h:dN ρ H w)(v:Value)(ob:Ob)
 (hb:Below w.heap.size w w')
 (hv:∀k,blk v=some k->w.heap.size<=k/\k<w'.heap.size)
 (iD:∀ρ' H',Ext ρ H w ρ' H' w'->nJ (bF ρ' H') ρ' w' v ob):
 ∃id ρ',ρ id=none/\H id=none/\ρ' id=some v/\dN ρ' (set H id (some ob)) w'/\Ext ρ H w ρ' (set H id (some ob)) w':=by
 obtain⟨id,h1,h2⟩:=h.fresh
 have:=h.put (λ_=>False) id v ob hb.os hb.tape hb.output hb.size (.inl h1) (λk hk _=>hb.block k hk) (λ_ hd=>hd.elim)
  (λk hk=>⟨.inr (hv k hk).1,(hv k hk).2⟩) (λρ' H' e _=>iD ρ' H' e) (set H id (some ob)) (λj=>by by_cases hj:j=id<;>simp[set,hj]) (λj hj o ho=>⟨by rwa [dM _ _ hj] at ho,λhf=>hf⟩)
 exact⟨id,_,h1,h2,set_self _ _ _,this.1,this.2⟩
theorem dN.write{ρ:gz}{H:Hp}{w w':World}(h:dN ρ H w){id:Nat}{v:Value}{Vo:Ob}(ob:Ob)(h0:H id=some Vo)(hr:ρ id=some v)
 (hos:w'.os=w.os) (CK:w'.tape=w.tape) (hout:w'.output=w.output) (hsize:w.heap.size<=w'.heap.size)
 (hch:∀k,k<w.heap.size->blk v≠some k->w'.heap[k]? =w.heap[k]?)
 (iD:∀ρ' H',Ext ρ H w ρ' H' w'->ρ' id=some v->nJ (bF ρ' H') ρ' w' v ob):
 dN ρ (set H id (some ob)) w'/\Ext ρ H w ρ (set H id (some ob)) w':=by
 have hset:set ρ id (some v)=ρ:=by
  funext j
  by_cases hj:j=id
  ·subst hj;rw[set_self,hr]
  ·rw[dM _ _ hj]
 have:=h.put (λd=>d=id) id v ob hos CK hout hsize (.inr ⟨hr,rfl⟩) (λk hk hd=>hch k hk (hd id v U hr)) (λd hd=>by subst hd;exact⟨Vo,h0⟩)
  (λk hk=>⟨.inl ⟨id,v,rfl,hr,hk⟩,Nat.lt_of_lt_of_le (h.lt id v k hr hk) hsize⟩) iD (set H id (some ob)) (λj=>by by_cases hj:j=id<;>simp[set,hj]) (λj hj o ho=>⟨by rwa [dM _ _ hj] at ho,λhf=>hj hf⟩)
 rwa [hset] at this
theorem dN.move{ρ:gz}{H:Hp}{w w':World}(h:dN ρ H w){Vp:Nat}{v0 v:Value}{Vo:Ob}(ob:Ob)(h0:H Vp=some Vo)(hr:ρ Vp=some v0)
 (hos:w'.os=w.os) (CK:w'.tape=w.tape) (hout:w'.output=w.output) (hsize:w.heap.size<=w'.heap.size)
 (hch:∀k,k<w.heap.size->blk v0≠some k->w'.heap[k]? =w.heap[k]?)
 (hv:∀k,blk v=some k->(blk v0=some k\/w.heap.size<=k)/\k<w'.heap.size)
 (iD:∀ρ' H',Ext ρ H w ρ' H' w'->nJ (bF ρ' H') ρ' w' v ob):
 ∃id ρ',ρ id=none/\H id=none/\ρ' id=some v/\dN ρ' (set (set H Vp none) id (some ob)) w'/\Ext ρ H w ρ' (set (set H Vp none) id (some ob)) w':=by
 obtain⟨id,h1,h2⟩:=h.fresh
 have:=h.put (λd=>d=Vp) id v ob hos CK hout hsize (.inl h1) (λk hk hd=>hch k hk (hd Vp v0 U hr)) (λd hd=>by subst hd;exact⟨Vo,h0⟩)
  (λk hk=>⟨(hv k hk).1.imp (λhb=>⟨Vp,v0,rfl,hr,hb⟩) (λx=>x),(hv k hk).2⟩) (λρ' H' e _=>iD ρ' H' e) (set (set H Vp none) id (some ob)) (λj=>by by_cases hj:j=id<;>simp[set,hj])
  (λj hj o ho=>by
    rw[dM _ _ hj] at ho
    by_cases hj0:j=Vp
    ·subst hj0;simp at ho
    ·rw[dM _ _ hj0] at ho;exact⟨ho,hj0⟩)
 exact⟨id,_,h1,h2,set_self _ _ _,this.1,this.2⟩
end Go.fT
end
