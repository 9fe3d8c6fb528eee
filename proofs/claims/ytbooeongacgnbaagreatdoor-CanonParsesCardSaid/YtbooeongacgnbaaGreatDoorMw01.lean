/- A part of the proof. -/
import Derived.WalkKit
import Derived.Laws.AppendOwn
import Derived.Laws.OwnMore
import Derived.Laws.Cells
import Derived.Laws.Tables
import Derived.Below
import Derived.KernelRfl
import Derived.TacticsIn
import Derived.OrdersIn
import Derived.Sort.LoopGhostIn
import Derived.RangeFuncLeaves
import Derived.RangeFuncFrom
theorem Go.U.{u}{α:Sort u}{a:α}:a=a:=rfl
set_option maxRecDepth 100000
set_option maxHeartbeats 4000000
set_option linter.unusedSectionVars false
set_option linter.unusedVariables false
set_option linter.unusedSimpArgs false
section
namespace Go.gW
open Go Go.RowKit
inductive AV where
 |any
 |v (x:Value)
 |agg (l:List AV)
 |dH (l:List AV)
 |sl (rows:List (List AV))
 |own (id off len sz:Nat)
 |ptr (id off:Nat)
 |rp (cells:List AV)
 |lW (f:Nat) (dD:List AV)
 |zk (t:Nat) (u:AV)
 |Tf (id off len:Nat)
 |mpr (id:Nat)
 |bnd (f:Nat) (first:List AV)
 deriving Inhabited
abbrev fK:=Nat->Option Value
def blk:Value->Option Nat
 | .pointer (some a)=>some a.block
 | .slice (some a) _ _=>some a.block
 | .map (some g)=>some g
 |_=>none
inductive dL (ok:Nat->Prop) (ρ:fK) (w:World):AV->Value->Prop
 |any (x:Value):dL ok ρ w .any x
 |v (x:Value):dL ok ρ w (.v x) x
 |agg (l:List AV) (vs:List Value) (h:l.length=vs.length) (hr:∀(j:Nat) (u:AV) (x:Value),l[j]? =some u->vs[j]? =some x->dL ok ρ w u x):dL ok ρ w (.agg l) (.agg vs.toArray)
 |dH (l:List AV) (vs:List Value) (h:l.length=vs.length) (hr:∀(j:Nat) (u:AV) (x:Value),l[j]? =some u->vs[j]? =some x->dL ok ρ w u x):dL ok ρ w (.dH l) (.tuple vs.toArray)
 |nil:dL ok ρ w (.sl []) (.slice none 0 0)
 |sl (rows:List (List AV)) (a:Addr) (cap sz:Nat) (vals:Nat->Nat->Value) (hcap:rows.length<=cap) (hmax:cap<=maxLen)
   (hok:rows≠[]->ok a.block/\a.block<w.heap.size) (hsz:∀cs∈rows,cs.length=sz)
   (hc:∀(i:Nat) (cs:List AV) (j:Nat),rows[i]? =some cs->j<cs.length->w.cell? (a.add (i*sz+j))=some (vals i j)/\(vals i j).oneCell'=true)
   (hr:∀(i:Nat) (cs:List AV) (j:Nat) (u:AV),rows[i]? =some cs->cs[j]? =some u->dL ok ρ w u (vals i j)):dL ok ρ w (.sl rows) (.slice (some a) rows.length cap)
 |rp (cells:List AV) (a:Addr) (vals:Nat->Value) (hok:cells≠[]->ok a.block/\a.block<w.heap.size)
   (hc:∀j,j<cells.length->w.cell? (a.add j)=some (vals j)/\(vals j).oneCell'=true)
   (hr:∀(j:Nat) (u:AV),cells[j]? =some u->dL ok ρ w u (vals j)):dL ok ρ w (.rp cells) (.pointer (some a))
 |lQ (id sz:Nat) (h:ρ id=some (.slice none 0 0)):dL ok ρ w (.own id 0 0 sz) (.slice none 0 0)
 |own (id off len sz g n cap:Nat) (h:ρ id=some (.slice (some ⟨g,0,none⟩) n cap)) (hle:off+len<=cap) (hmax:cap<=maxLen):dL ok ρ w (.own id off len sz) (.slice (some ⟨g,off*sz,none⟩) len (cap-off))
 |ny (id off sz g n cap off' cap':Nat) (h:ρ id=some (.slice (some ⟨g,0,none⟩) n cap)) (h0:off≠0) (hm:cap'<=maxLen):dL ok ρ w (.own id off 0 sz) (.slice (some ⟨g,off',none⟩) 0 cap')
 |ptr (id off g:Nat) (x:Value) (h:ρ id=some x) (hx:x=.pointer (some ⟨g,0,none⟩)\/∃n cap,x=.slice (some ⟨g,0,none⟩) n cap):dL ok ρ w (.ptr id off) (.pointer (some ⟨g,off,none⟩))
 |lW (f:Nat) (dD:List AV) (vs:List Value) (h:dD.length=vs.length) (hr:∀(j:Nat) (u:AV) (x:Value),dD[j]? =some u->vs[j]? =some x->dL ok ρ w u x):dL ok ρ w (.lW f dD) (.func (.func f) #[] vs.toArray)
 |zk (t:Nat) (u:AV) (x:Value) (h:dL ok ρ w u x):dL ok ρ w (.zk t u) (.iface t x)
 |Tf (id off len g cap:Nat) (h:ρ id=some (.pointer (some ⟨g,0,none⟩))) (hl:len<=cap) (hm:cap<=maxLen):dL ok ρ w (.Tf id off len) (.slice (some ⟨g,off,none⟩) len cap)
 |mpr (id g:Nat) (h:ρ id=some (.map (some g))):dL ok ρ w (.mpr id) (.map (some g))
 |bnd (f:Nat) (first:List AV) (vs:List Value) (h:first.length=vs.length) (hr:∀(j:Nat) (u:AV) (x:Value),first[j]? =some u->vs[j]? =some x->dL ok ρ w u x):dL ok ρ w (.bnd f first) (.func (.func f) vs.toArray #[])
theorem cell_of_heap{w w':World}{a:Addr}(h:w'.heap[a.block]? =w.heap[a.block]?):w'.cell? a=w.cell? a:=by
 simp[World.cell?,h]
theorem add_block(a:Addr)(n:Nat):(a.add n).block=a.block:=by unfold Addr.add;split<;>rfl
theorem add_add(a:Addr)(m n:Nat):(a.add m).add n=a.add (m+n):=by
 unfold Addr.add
 by_cases h1:m=0
 ·subst h1;simp
 ·by_cases h2:n=0
  ·subst h2;simp[h1]
  ·simp[h1,h2,Nat.add_assoc]
theorem add_plain(g o j:Nat):(⟨g,o,none⟩:Addr).add j=⟨g,o+j,none⟩:=by unfold Addr.add;split<;>simp_all
theorem dL.mono{ok ok':Nat->Prop}{ρ ρ':fK}{w w':World}{u:AV}{x:Value}(h:dL ok ρ w u x)
 (hk:∀k,ok k->k<w.heap.size->ok' k/\w'.heap[k]? =w.heap[k]?) (hρ:∀id v,ρ id=some v->ρ' id=some v):dL ok' ρ' w' u x:=by
 induction h with
 |any x=>exact .any x
 |v x=>exact .v x
 |agg l vs h hr ih=>exact .agg l vs h (λj u x h1 h2=>ih j u x h1 h2)
 |dH l vs h hr ih=>exact .dH l vs h (λj u x h1 h2=>ih j u x h1 h2)
 |nil=>exact .nil
 |sl rows a cap sz vals hcap hmax hok hsz hc hr ih=>
  have hb:rows≠[]->ok' a.block/\w'.heap[a.block]? =w.heap[a.block]? /\a.block<w.heap.size:=λhn=>⟨(hk _ (hok hn).1 (hok hn).2).1,(hk _ (hok hn).1 (hok hn).2).2,(hok hn).2⟩
  have hne:∀{i:Nat} {cs:List AV},rows[i]? =some cs->rows≠[]:=λhi he=>by rw[he] at hi;simp at hi
  refine .sl rows a cap sz vals hcap hmax (λhn=>⟨(hb hn).1,?_⟩) hsz (λi cs j hi hj=>?_) (λi cs j u hi hj=>ih i cs j u hi hj)
  ·have h1:=(hb hn).2.1
   rw[Array.getElem?_eq_getElem (hb hn).2.2] at h1
   exact(Array.getElem?_eq_some_iff.1 h1).1
  ·rw[cell_of_heap (w:=w) (w':=w') (by rw[add_block];exact(hb (hne hi)).2.1)]
   exact hc i cs j hi hj
 |rp cells a vals hok hc hr ih=>
  have hb:cells≠[]->ok' a.block/\w'.heap[a.block]? =w.heap[a.block]? /\a.block<w.heap.size:=λhn=>⟨(hk _ (hok hn).1 (hok hn).2).1,(hk _ (hok hn).1 (hok hn).2).2,(hok hn).2⟩
  refine .rp cells a vals (λhn=>⟨(hb hn).1,?_⟩) (λj hj=>?_) (λj u hj=>ih j u hj)
  ·have h1:=(hb hn).2.1
   rw[Array.getElem?_eq_getElem (hb hn).2.2] at h1
   exact(Array.getElem?_eq_some_iff.1 h1).1
  ·rw[cell_of_heap (w:=w) (w':=w') (by rw[add_block];exact(hb (λhe=>by rw[he] at hj;simp at hj)).2.1)]
   exact hc j hj
 |lQ id sz h=>exact .lQ id sz (hρ _ _ h)
 |own id off len sz g n cap h hle hmax=>exact .own id off len sz g n cap (hρ _ _ h) hle hmax
 |ny id off sz g n cap o' c' h h0 hm=>exact .ny id off sz g n cap o' c' (hρ _ _ h) h0 hm
 |ptr id off g x h hx=>exact .ptr id off g x (hρ _ _ h) hx
 |lW f dD vs h hr ih=>exact .lW f dD vs h (λj u x h1 h2=>ih j u x h1 h2)
 |zk t u x h ih=>exact .zk t u x ih
 |Tf id off len g cap h hl hm=>exact .Tf id off len g cap (hρ _ _ h) hl hm
 |mpr id g h=>exact .mpr id g (hρ _ _ h)
 |bnd f first vs h hr ih=>exact .bnd f first vs h (λj u x h1 h2=>ih j u x h1 h2)
inductive Ob where
 |box (t:Nat) (cells:List AV)
 |row (e sz:Nat) (rows:List (List AV))
 |iter (s:ByteArray) (pos:Nat)
 |iP (e sz:Nat) (rows:List (List AV)) (c:Nat)
 |raw (g:Nat) (x:Obj)
 |mp (es:List (ByteArray×AV))
 |xE (mid n:Nat) (seen:List Nat)
 deriving Inhabited
abbrev Hp:=Nat->Option Ob
def Own(ρ:fK)(H:Hp)(k:Nat):Prop:=∃id ob v,H id=some ob/\ρ id=some v/\blk v=some k
def bK(ρ:fK)(H:Hp)(k:Nat):Prop:=¬Own ρ H k
def aZ(ok:Nat->Prop)(ρ:fK)(w:World)(us:List AV)(xs:List Value):Prop:=
 us.length=xs.length/\∀(j:Nat) (u:AV) (x:Value),us[j]? =some u->xs[j]? =some x->dL ok ρ w u x/\x.oneCell'=true
def pz(ok:Nat->Prop)(ρ:fK)(w:World)(us:List AV)(xs:List Value):Prop:=
 us.length=xs.length/\∀(j:Nat) (u:AV) (x:Value),us[j]? =some u->xs[j]? =some x->dL ok ρ w u x
def Nt(l:Array MapEntry)(rR:Nat):Prop:=(∀(i:Nat) (e:MapEntry),l[i]? =some e->e.born=i)/\rR=l.size
def lM(ok:Nat->Prop)(ρ:fK)(w:World)(v:Value):Ob->Prop
 | .box t cells=>∃g vals,v=.pointer (some ⟨g,0,none⟩)/\w.heap[g]? =some (.cells (List.toArray vals) t (0,0))/\aZ ok ρ w cells vals
 | .row e sz rows=>0<sz/\∃inner,w.ownsRow 0 e sz v rows.length inner/\(∀cs∈rows,cs.length=sz)/\aZ ok ρ w rows.flatten inner
 | .iter s pos=>∃g,v=.pointer (some ⟨g,0,none⟩)/\w.heap[g]? =some (.stringIter s pos)
 | .iP e sz rows c=>0<sz/\∃g n inner cur,v=.slice (some ⟨g,0,none⟩) n c/\w.heap[g]? =some (.cells cur e (0,0))/\rows.length<=c/\c<=maxLen/\cur.size=c*sz/\cur.toList.take (rows.length*sz)=inner/\(∀cs∈rows,cs.length=sz)/\aZ ok ρ w rows.flatten inner
 | .raw g x=>v=.bool true/\ok g/\w.heap[g]? =some x/\∃cs t f,x=.cells cs t f
 | .mp es=>∃g l rR,v=.map (some g)/\w.heap[g]? =some (.map l rR)/\l.toList.map (·.key)=es.map (λe=>Value.string e.1)/\pz ok ρ w (es.map (·.2)) (l.toList.map (·.val))/\Nt l rR
 | .xE mid n seen=>∃g gm,v=.pointer (some ⟨g,0,none⟩)/\ρ mid=some (.map (some gm))/\w.heap[g]? =some (.mapIter (some gm) n (List.toArray seen) n)
structure dG(ρ:fK)(H:Hp)(w:World):Prop where
 ob:∀id ob,H id=some ob->∃v,ρ id=some v/\lM (bK ρ H) ρ w v ob
 apart:∀id id' ob zF v v' k,H id=some ob->H id'=some zF->ρ id=some v->ρ id'=some v'->blk v=some k->blk v'=some k->id=id'
 room:∃B,∀id,B<=id->ρ id=none
 lt:∀id v k,ρ id=some v->blk v=some k->k<w.heap.size
structure Ext(ρ:fK)(H:Hp)(w:World)(ρ':fK)(H':Hp)(w':World):Prop where
 os:w'.os=w.os
 tape:w'.tape=w.tape
 output:w'.output=w.output
 size:w.heap.size<=w'.heap.size
 block:∀k,k<w.heap.size->¬Own ρ H k->w'.heap[k]? =w.heap[k]?
 own:∀k,Own ρ' H' k->Own ρ H k\/w.heap.size<=k
 F4:∀id v,ρ id=some v->ρ' id=some v
theorem Ext.refl(ρ:fK)(H:Hp)(w:World):Ext ρ H w ρ H w:=⟨rfl,rfl,rfl,Nat.le_refl _,λ_ _ _=>rfl,λ_ h=> .inl h,λ_ _ h=>h⟩
theorem Ext.trans{ρ Zw Tg:fK}{H H1 H2:Hp}{w w1 w2:World}(a:Ext ρ H w Zw H1 w1)(b:Ext Zw H1 w1 Tg H2 w2):Ext ρ H w Tg H2 w2 where
 os:=b.os.trans a.os
 tape:=b.tape.trans a.tape
 output:=b.output.trans a.output
 size:=Nat.le_trans a.size b.size
 block k hk hn:=(b.block k (Nat.lt_of_lt_of_le hk a.size) (λho=>(a.own k ho).elim hn (λh=>by omega))).trans (a.block k hk hn)
 own k h:=(b.own k h).elim (λh1=>a.own k h1) (λh1=> .inr (Nat.le_trans a.size h1))
 F4 id v h:=b.F4 id v (a.F4 id v h)
theorem Ext.rep{ρ ρ':fK}{H H':Hp}{w w':World}(e:Ext ρ H w ρ' H' w'){u:AV}{x:Value}(h:dL (bK ρ H) ρ w u x):dL (bK ρ' H') ρ' w' u x:=
 h.mono (λk hk hlt=>⟨λho=>(e.own k ho).elim hk (λh1=>by omega),e.block k hlt hk⟩) e.F4
theorem Ext.cells{ρ ρ':fK}{H H':Hp}{w w':World}(e:Ext ρ H w ρ' H' w'){us:List AV}{xs:List Value}(h:aZ (bK ρ H) ρ w us xs):aZ (bK ρ' H') ρ' w' us xs:=
 ⟨h.1,λj u x h1 h2=>⟨e.rep (h.2 j u x h1 h2).1,(h.2 j u x h1 h2).2⟩⟩
theorem Ext.vals{ρ ρ':fK}{H H':Hp}{w w':World}(e:Ext ρ H w ρ' H' w'){us:List AV}{xs:List Value}(h:pz (bK ρ H) ρ w us xs):pz (bK ρ' H') ρ' w' us xs:=
 ⟨h.1,λj u x h1 h2=>e.rep (h.2 j u x h1 h2)⟩
def Sub(H' H:Hp):Prop:=∀id ob,H' id=some ob->H id=some ob
theorem DL{ρ:fK}{H H':Hp}(hs:Sub H' H){k:Nat}(h:Own ρ H' k):Own ρ H k:=by
 obtain⟨id,ob,v,h1,h2,h3⟩:=h
 exact⟨id,ob,v,hs _ _ h1,h2,h3⟩
theorem Ext.drop{ρ:fK}{H H':Hp}(hs:Sub H' H)(w:World):Ext ρ H w ρ H' w:=
 ⟨rfl,rfl,rfl,Nat.le_refl _,λ_ _ _=>rfl,λ_ h=> .inl (DL hs h),λ_ _ h=>h⟩
theorem lM.ext{ρ ρ':fK}{H H':Hp}{w w':World}(e:Ext ρ H w ρ' H' w'){v:Value}{ob:Ob}(hb:∀k,blk v=some k->w'.heap[k]? =w.heap[k]?)(h:lM (bK ρ H) ρ w v ob):lM (bK ρ' H') ρ' w' v ob:=by
 cases ob with
 |box t cells=>
  obtain⟨g,vals,rfl,hg,hr⟩:=h
  exact⟨g,vals,rfl,(hb g U).trans hg,e.cells hr⟩
 |row ee sz rows=>
  obtain⟨h0,inner,ho,hl,hr⟩:=h
  refine⟨h0,inner,⟨ho.1,?_⟩,hl,e.cells hr⟩
  rcases ho.2 with h2|⟨g,cap,cur,rfl,hg,hh,r⟩
  ·exact .inl h2
  ·exact .inr ⟨g,cap,cur,rfl,hg,(hb g U).trans hh,r⟩
 |iter s pos=>
  obtain⟨g,rfl,hg⟩:=h
  exact⟨g,rfl,(hb g U).trans hg⟩
 |iP ee sz rows c=>
  obtain⟨h0,g,n,inner,cur,rfl,hg,h1,h2,h3,h4,h5,hr⟩:=h
  exact⟨h0,g,n,inner,cur,rfl,(hb g U).trans hg,h1,h2,h3,h4,h5,e.cells hr⟩
 |raw g x=>
  obtain⟨rfl,hok,hg,hx⟩:=h
  have hlt:g<w.heap.size:=(Array.getElem?_eq_some_iff.1 hg).1
  exact⟨rfl,λho=>(e.own g ho).elim hok (λh1=>by omega),(e.block g hlt hok).trans hg,hx⟩
 |mp es=>
  obtain⟨g,l,rR,rfl,hg,h1,h2,h3⟩:=h
  exact⟨g,l,rR,rfl,(hb g U).trans hg,h1,e.vals h2,h3⟩
 |xE mid n seen=>
  obtain⟨g,gm,rfl,h1,hg⟩:=h
  exact⟨g,gm,rfl,e.F4 _ _ h1,(hb g U).trans hg⟩
theorem dG.drop{ρ:fK}{H H':Hp}{w:World}(h:dG ρ H w)(hs:Sub H' H):dG ρ H' w where
 ob id ob hi:=by
  obtain⟨v,h1,h2⟩:=h.ob id ob (hs _ _ hi)
  exact⟨v,h1,h2.ext (Ext.drop hs w) (λ_ _=>rfl)⟩
 apart id id' ob zF v v' k a b c d e f:=h.apart id id' ob zF v v' k (hs _ _ a) (hs _ _ b) c d e f
 room:=h.room
 lt:=h.lt
def set{α:Type}(f:Nat->Option α)(i:Nat)(x:Option α):Nat->Option α:=λj=>if j=i then x else f j
@[simp] theorem set_self {α:Type} (f:Nat->Option α) (i:Nat) (x:Option α):set f i x i=x:=by simp[set]
theorem dV{α:Type}(f:Nat->Option α){i j:Nat}(x:Option α)(h:j≠i):set f i x j=f j:=by simp[set,h]
theorem dG.put{ρ:fK}{H:Hp}{w w':World}(h:dG ρ H w)(D:Nat->Prop)(id:Nat)(v:Value)(ob:Ob)
 (hos:w'.os=w.os) (zG:w'.tape=w.tape) (hout:w'.output=w.output) (hsize:w.heap.size<=w'.heap.size)
 (hfresh:ρ id=none\/ρ id=some v/\D id)
 (hch:∀k,k<w.heap.size->(∀d vd,D d->ρ d=some vd->blk vd≠some k)->w'.heap[k]? =w.heap[k]?)
 (hD:∀d,D d->∃o,H d=some o)
 (hv:∀k,blk v=some k->((∃d vd,D d/\ρ d=some vd/\blk vd=some k)\/w.heap.size<=k)/\k<w'.heap.size)
 (jd:∀ρ' H',Ext ρ H w ρ' H' w'->ρ' id=some v->lM (bK ρ' H') ρ' w' v ob)
 (H':Hp) (hH:∀j,H' j=if j=id then some ob else H' j) (hH2:∀j,j≠id->∀o,H' j=some o->H j=some o/\¬D j):
 dG (set ρ id (some v)) H' w'/\Ext ρ H w (set ρ id (some v)) H' w':=by
 have hid:H' id=some ob:=by rw[hH id];simp
 have WK:∀j vj,ρ j=some vj->set ρ id (some v) j=some vj:=by
  intro j vj hj
  by_cases hji:j=id
  ·subst hji
   rcases hfresh with h0|⟨h1,_⟩
   ·rw[h0] at hj;cases hj
   ·rw[set_self,<-h1,hj]
  ·rw[dV _ _ hji,hj]
 have hback:∀j vj,j≠id->set ρ id (some v) j=some vj->ρ j=some vj:=λj vj hj he=>by rwa [dV _ _ hj] at he
 have hown:∀k,Own (set ρ id (some v)) H' k->Own ρ H k\/w.heap.size<=k:=by
  rintro k ⟨j,o,vj,h1,h2,h3⟩
  by_cases hji:j=id
  ·subst hji
   rw[set_self] at h2
   cases h2
   rcases(hv k h3).1 with ⟨d,vd,hd,hrd,hbd⟩|h4
   ·obtain⟨o',ho'⟩:=hD d hd
    exact .inl ⟨d,o',vd,ho',hrd,hbd⟩
   ·exact .inr h4
  ·exact .inl ⟨j,o,vj,(hH2 j hji o h1).1,hback j vj hji h2,h3⟩
 have hE:Ext ρ H w (set ρ id (some v)) H' w':=by
  refine⟨hos,zG,hout,hsize,λk hk hn=>hch k hk (λd vd hd hrd hb=>hn ?_),hown,WK⟩
  obtain⟨o,ho⟩:=hD d hd
  exact⟨d,o,vd,ho,hrd,hb⟩
 refine⟨⟨?_,?_,?_,?_⟩,hE⟩
 ·intro j o hj
  by_cases hji:j=id
  ·subst hji
   rw[hid] at hj
   cases hj
   exact⟨v,set_self _ _ _,jd _ _ hE (set_self _ _ _)⟩
  ·obtain⟨hHj,hnd⟩:=hH2 j hji o hj
   obtain⟨vj,h1,h2⟩:=h.ob j o hHj
   refine⟨vj,WK j vj h1,h2.ext hE (λk hk=>hch k (h.lt j vj k h1 hk) (λd vd hd hrd hb=>hnd ?_))⟩
   obtain⟨od,hod⟩:=hD d hd
   have:=h.apart j d o od vj vd k hHj hod h1 hrd hk hb
   subst this
   exact hd
 ·intro j j' o o' vj WL k a b c d e f
  by_cases hji:j=id
  ·by_cases IP:j'=id
   ·rw[hji,IP]
   ·exfalso
    subst hji
    rw[set_self] at c
    cases c
    obtain⟨Yl,hnd⟩:=hH2 j' IP o' b
    have d':=hback j' WL IP d
    rcases(hv k e).1 with ⟨dd,vd,hd,hrd,hbd⟩|h4
    ·obtain⟨od,hod⟩:=hD dd hd
     have:=h.apart j' dd o' od WL vd k Yl hod d' hrd f hbd
     subst this
     exact hnd hd
    ·have:=h.lt j' WL k d' f
     omega
  ·by_cases IP:j'=id
   ·exfalso
    subst IP
    rw[set_self] at d
    cases d
    obtain⟨hHj,hnd⟩:=hH2 j hji o a
    have c':=hback j vj hji c
    rcases(hv k f).1 with ⟨dd,vd,hd,hrd,hbd⟩|h4
    ·obtain⟨od,hod⟩:=hD dd hd
     have:=h.apart j dd o od vj vd k hHj hod c' hrd e hbd
     subst this
     exact hnd hd
    ·have:=h.lt j vj k c' e
     omega
   ·exact h.apart j j' o o' vj WL k (hH2 j hji o a).1 (hH2 j' IP o' b).1 (hback j vj hji c) (hback j' WL IP d) e f
 ·obtain⟨B,hB⟩:=h.room
  refine⟨max B (id+1),λj hj=>?_⟩
  rw[dV _ _ (by omega)]
  exact hB j (by omega)
 ·intro j vj k hj hk
  by_cases hji:j=id
  ·subst hji
   rw[set_self] at hj
   cases hj
   exact(hv k hk).2
  ·exact Nat.lt_of_lt_of_le (h.lt j vj k (hback j vj hji hj) hk) hsize
theorem dG.fresh{ρ:fK}{H:Hp}{w:World}(h:dG ρ H w):∃id,ρ id=none/\H id=none:=by
 obtain⟨B,hB⟩:=h.room
 refine⟨B,hB B (Nat.le_refl _),?_⟩
 cases hb:H B with
 |none=>rfl
 |some ob=>
  obtain⟨v,h1,_⟩:=h.ob B ob hb
  rw[hB B (Nat.le_refl _)] at h1
  cases h1
theorem dG.new{ρ:fK}{H:Hp}{w w':World}(h:dG ρ H w)(v:Value)(ob:Ob)
 (hb:Below w.heap.size w w')
 (hv:∀k,blk v=some k->w.heap.size<=k/\k<w'.heap.size)
 (jd:∀ρ' H',Ext ρ H w ρ' H' w'->lM (bK ρ' H') ρ' w' v ob):
 ∃id ρ',ρ id=none/\H id=none/\ρ' id=some v/\dG ρ' (set H id (some ob)) w'/\Ext ρ H w ρ' (set H id (some ob)) w':=by
 obtain⟨id,h1,h2⟩:=h.fresh
 have:=h.put (λ_=>False) id v ob hb.os hb.tape hb.output hb.size (.inl h1) (λk hk _=>hb.block k hk) (λ_ hd=>hd.elim)
  (λk hk=>⟨.inr (hv k hk).1,(hv k hk).2⟩) (λρ' H' e _=>jd ρ' H' e) (set H id (some ob)) (λj=>by by_cases hj:j=id<;>simp[set,hj]) (λj hj o ho=>⟨by rwa [dV _ _ hj] at ho,λhf=>hf⟩)
 exact⟨id,_,h1,h2,set_self _ _ _,this.1,this.2⟩
theorem dG.write{ρ:fK}{H:Hp}{w w':World}(h:dG ρ H w){id:Nat}{v:Value}{PW:Ob}(ob:Ob)(h0:H id=some PW)(hr:ρ id=some v)
 (hos:w'.os=w.os) (zG:w'.tape=w.tape) (hout:w'.output=w.output) (hsize:w.heap.size<=w'.heap.size)
 (hch:∀k,k<w.heap.size->blk v≠some k->w'.heap[k]? =w.heap[k]?)
 (jd:∀ρ' H',Ext ρ H w ρ' H' w'->ρ' id=some v->lM (bK ρ' H') ρ' w' v ob):
 dG ρ (set H id (some ob)) w'/\Ext ρ H w ρ (set H id (some ob)) w':=by
 have hset:set ρ id (some v)=ρ:=by
  funext j
  by_cases hj:j=id
  ·subst hj;rw[set_self,hr]
  ·rw[dV _ _ hj]
 have:=h.put (λd=>d=id) id v ob hos zG hout hsize (.inr ⟨hr,rfl⟩) (λk hk hd=>hch k hk (hd id v U hr)) (λd hd=>by subst hd;exact⟨PW,h0⟩)
  (λk hk=>⟨.inl ⟨id,v,rfl,hr,hk⟩,Nat.lt_of_lt_of_le (h.lt id v k hr hk) hsize⟩) jd (set H id (some ob)) (λj=>by by_cases hj:j=id<;>simp[set,hj]) (λj hj o ho=>⟨by rwa [dV _ _ hj] at ho,λhf=>hj hf⟩)
 rwa [hset] at this
theorem dG.move{ρ:fK}{H:Hp}{w w':World}(h:dG ρ H w){PX:Nat}{v0 v:Value}{PW:Ob}(ob:Ob)(h0:H PX=some PW)(hr:ρ PX=some v0)
 (hos:w'.os=w.os) (zG:w'.tape=w.tape) (hout:w'.output=w.output) (hsize:w.heap.size<=w'.heap.size)
 (hch:∀k,k<w.heap.size->blk v0≠some k->w'.heap[k]? =w.heap[k]?)
 (hv:∀k,blk v=some k->(blk v0=some k\/w.heap.size<=k)/\k<w'.heap.size)
 (jd:∀ρ' H',Ext ρ H w ρ' H' w'->lM (bK ρ' H') ρ' w' v ob):
 ∃id ρ',ρ id=none/\H id=none/\ρ' id=some v/\dG ρ' (set (set H PX none) id (some ob)) w'/\Ext ρ H w ρ' (set (set H PX none) id (some ob)) w':=by
 obtain⟨id,h1,h2⟩:=h.fresh
 have:=h.put (λd=>d=PX) id v ob hos zG hout hsize (.inl h1) (λk hk hd=>hch k hk (hd PX v0 U hr)) (λd hd=>by subst hd;exact⟨PW,h0⟩)
  (λk hk=>⟨(hv k hk).1.imp (λhb=>⟨PX,v0,rfl,hr,hb⟩) (λx=>x),(hv k hk).2⟩) (λρ' H' e _=>jd ρ' H' e) (set (set H PX none) id (some ob)) (λj=>by by_cases hj:j=id<;>simp[set,hj])
  (λj hj o ho=>by
    rw[dV _ _ hj] at ho
    by_cases hj0:j=PX
    ·subst hj0;simp at ho
    ·rw[dV _ _ hj0] at ho;exact⟨ho,hj0⟩)
 exact⟨id,_,h1,h2,set_self _ _ _,this.1,this.2⟩
structure Nu where
 ρ:fK
 H:Hp
 w:World
abbrev Sl:=Nat->AV
def TS(D:Nat):Deferred:={target:=.collected D,args:= #[]}
def Marks(E:Nu)(ds:List Deferred)(w:World):Prop:=∃Ds:List Nat,ds=Ds.map TS/\Ds.Nodup/\∀D∈Ds,E.w.heap.size<=D/\w.heap[D]? =some (.deferred (some []))
theorem Marks.none{E:Nu}{w:World}:Marks E [] w:=⟨[],rfl,List.nodup_nil,λD h=>by cases h⟩
theorem xJ{ρ:fK}{H:Hp}{w:World}{D:Nat}{x:Option (List Deferred)}(h:dG ρ H w)(hD:w.heap[D]? =some (.deferred x)):¬Own ρ H D:=by
 rintro⟨id,ob,v,h1,h2,h3⟩
 obtain⟨v',hv',jd⟩:=h.ob id ob h1
 rw[h2] at hv'
 cases hv'
 cases ob with
 |box t cells=>obtain⟨g,vals,rfl,hg,hr⟩:=jd;cases h3;rw[hg] at hD;cases hD
 |row e sz rows=>
  obtain⟨h0,inner,ho,hl,hr⟩:=jd
  rcases ho.2 with ⟨rfl,_⟩|⟨g,cap,cur,rfl,_,hg,_⟩
  ·cases h3
  ·cases h3;rw[hg] at hD;cases hD
 |iter s pos=>obtain⟨g,rfl,hg⟩:=jd;cases h3;rw[hg] at hD;cases hD
 |iP e sz rows c=>obtain⟨h0,g,n,inner,cur,rfl,hg,_⟩:=jd;cases h3;rw[hg] at hD;cases hD
 |raw g x=>obtain⟨rfl,_⟩:=jd;cases h3
 |mp es=>obtain⟨g,l,rR,rfl,hg,_⟩:=jd;cases h3;rw[hg] at hD;cases hD
 |xE mid n seen=>obtain⟨g,gm,rfl,_,hg⟩:=jd;cases h3;rw[hg] at hD;cases hD
theorem Marks.step{E:Nu}{ds:List Deferred}{w w':World}{ρ ρ':fK}{H H':Hp}(h:Marks E ds w)(hr:dG ρ H w)(e:Ext ρ H w ρ' H' w'):Marks E ds w':=by
 obtain⟨Ds,h1,h2,h3⟩:=h
 exact⟨Ds,h1,h2,λD hD=>⟨(h3 D hD).1,(e.block D (Array.getElem?_eq_some_iff.1 (h3 D hD).2).1 (xJ hr (h3 D hD).2)).trans (h3 D hD).2⟩⟩
theorem dL.off{ok:Nat->Prop}{ρ:fK}{w w':World}{u:AV}{x:Value}(h:dL ok ρ w u x)(hc:∀a v,w.cell? a=some v->w'.cell? a=some v)(hs:w.heap.size<=w'.heap.size):dL ok ρ w' u x:=by
 induction h with
 |any x=>exact .any x
 |v x=>exact .v x
 |agg l vs h hr ih=>exact .agg l vs h ih
 |dH l vs h hr ih=>exact .dH l vs h ih
 |nil=>exact .nil
 |sl rows a cap sz vals hcap hmax hok hsz hcc hr ih=>exact .sl rows a cap sz vals hcap hmax (λhn=>⟨(hok hn).1,Nat.lt_of_lt_of_le (hok hn).2 hs⟩) hsz (λi cs j h1 h2=>⟨hc _ _ (hcc i cs j h1 h2).1,(hcc i cs j h1 h2).2⟩) ih
 |rp cells a vals hok hcc hr ih=>exact .rp cells a vals (λhn=>⟨(hok hn).1,Nat.lt_of_lt_of_le (hok hn).2 hs⟩) (λj h1=>⟨hc _ _ (hcc j h1).1,(hcc j h1).2⟩) ih
 |lQ id sz h=>exact .lQ id sz h
 |own id off len sz g n cap h hle hmax=>exact .own id off len sz g n cap h hle hmax
 |ny id off sz g n cap o' c' h h0 hm=>exact .ny id off sz g n cap o' c' h h0 hm
 |ptr id off g x h hx=>exact .ptr id off g x h hx
 |lW f dD vs h hr ih=>exact .lW f dD vs h ih
 |zk t u x h ih=>exact .zk t u x ih
 |Tf id off len g cap h hl hm=>exact .Tf id off len g cap h hl hm
 |mpr id g h=>exact .mpr id g h
 |bnd f first vs h hr ih=>exact .bnd f first vs h ih
theorem aZ.off{ok:Nat->Prop}{ρ:fK}{w w':World}{us:List AV}{xs:List Value}(h:aZ ok ρ w us xs)(hc:∀a v,w.cell? a=some v->w'.cell? a=some v)(hs:w.heap.size<=w'.heap.size):aZ ok ρ w' us xs:=
 ⟨h.1,λj u x h1 h2=>⟨(h.2 j u x h1 h2).1.off hc hs,(h.2 j u x h1 h2).2⟩⟩
theorem pz.off{ok:Nat->Prop}{ρ:fK}{w w':World}{us:List AV}{xs:List Value}(h:pz ok ρ w us xs)(hc:∀a v,w.cell? a=some v->w'.cell? a=some v)(hs:w.heap.size<=w'.heap.size):pz ok ρ w' us xs:=
 ⟨h.1,λj u x h1 h2=>(h.2 j u x h1 h2).off hc hs⟩
structure KU(ρ:fK)(H:Hp)(w w':World):Prop where
 os:w'.os=w.os
 tape:w'.tape=w.tape
 output:w'.output=w.output
 size:w.heap.size<=w'.heap.size
 cells:∀(k:Nat) (o:Obj),w.heap[k]? =some o->o.isCells=true->w'.heap[k]? =some o
 iter:∀id s pos g,H id=some (.iter s pos)->ρ id=some (.pointer (some ⟨g,0,none⟩))->w'.heap[g]? =w.heap[g]?
 mp:∀id es g,H id=some (.mp es)->ρ id=some (.map (some g))->w'.heap[g]? =w.heap[g]?
 xE:∀id mid n seen g,H id=some (.xE mid n seen)->ρ id=some (.pointer (some ⟨g,0,none⟩))->w'.heap[g]? =w.heap[g]?
theorem KU.cell{ρ:fK}{H:Hp}{w w':World}(k:KU ρ H w w'):∀a v,w.cell? a=some v->w'.cell? a=some v:=by
 intro a v h
 obtain⟨o,h1,h2⟩:=cells_of_cell h
 have h3:=k.cells _ _ h1 h2
 unfold World.cell? at h⊢
 rw[h3];rw[h1] at h;exact h
theorem dG.off{ρ:fK}{H:Hp}{w w':World}(h:dG ρ H w)(k:KU ρ H w w'):dG ρ H w' where
 ob id ob hi:=by
  obtain⟨v,h1,h2⟩:=h.ob id ob hi
  refine⟨v,h1,?_⟩
  cases ob with
  |box t cells=>obtain⟨g,vals,rfl,hg,hr⟩:=h2;exact⟨g,vals,rfl,k.cells _ _ hg rfl,hr.off k.cell k.size⟩
  |row e sz rows=>
   obtain⟨h0,inner,ho,hl,hr⟩:=h2
   refine⟨h0,inner,⟨ho.1,?_⟩,hl,hr.off k.cell k.size⟩
   rcases ho.2 with h2|⟨g,cap,cur,rfl,hg,hh,r⟩
   ·exact .inl h2
   ·exact .inr ⟨g,cap,cur,rfl,hg,k.cells _ _ hh U,r⟩
  |iter s pos=>obtain⟨g,rfl,hg⟩:=h2;exact⟨g,rfl,(k.iter id s pos g hi h1).trans hg⟩
  |iP e sz rows c=>obtain⟨h0,g,n,inner,cur,rfl,hg,r1,r2,r3,r4,r5,hr⟩:=h2;exact⟨h0,g,n,inner,cur,rfl,k.cells _ _ hg rfl,r1,r2,r3,r4,r5,hr.off k.cell k.size⟩
  |raw g x=>obtain⟨rfl,hok,hg,cs,t,f,rfl⟩:=h2;exact⟨rfl,hok,k.cells _ _ hg rfl,cs,t,f,rfl⟩
  |mp es=>obtain⟨g,l,rR,rfl,hg,r1,r2,r3⟩:=h2;exact⟨g,l,rR,rfl,(k.mp id es g hi h1).trans hg,r1,r2.off k.cell k.size,r3⟩
  |xE mid n seen=>obtain⟨g,gm,rfl,r1,hg⟩:=h2;exact⟨g,gm,rfl,r1,(k.xE id mid n seen g hi h1).trans hg⟩
 apart:=h.apart
 room:=h.room
 lt id v g h1 h2:=Nat.lt_of_lt_of_le (h.lt id v g h1 h2) k.size
theorem IQ{ρ:fK}{H:Hp}{w:World}{D:Nat}{x:Option (List Deferred)}(h:dG ρ H w)(hD:w.heap[D]? =some (.deferred x)):KU ρ H w (w.putObj D (.deferred none)) where
 os:=rfl
 tape:=rfl
 output:=rfl
 size:=by simp[World.putObj]
 cells k o h1 h2:=by
  rw[World.putObj_heap_other (λe=>by subst e;rw[h1] at hD;cases hD;cases h2)];exact h1
 iter id s pos g h1 h2:=World.putObj_heap_other (λe=>by
  subst e
  obtain⟨v,hv,g',rfl,hg⟩:=h.ob id _ h1
  rw[h2] at hv;cases hv
  rw[hg] at hD;cases hD)
 mp id es g h1 h2:=World.putObj_heap_other (λe=>by
  subst e
  obtain⟨v,hv,g',l,rR,rfl,hg,_⟩:=h.ob id _ h1
  rw[h2] at hv;cases hv
  rw[hg] at hD;cases hD)
 xE id mid n seen g h1 h2:=World.putObj_heap_other (λe=>by
  subst e
  obtain⟨v,hv,g',gm,rfl,_,hg⟩:=h.ob id _ h1
  rw[h2] at hv;cases hv
  rw[hg] at hD;cases hD)
structure Inv(E:Nu)(n:Nat)(T:Sl)(H:Hp)(a:Act)(w:World):Prop where
 size:a.tmps.size=n
 defers:Marks E a.defers w
 rel:∃ρ,dG ρ H w/\Ext E.ρ E.H E.w ρ H w/\∀t,dL (bK ρ H) ρ w (T t) (a.tmps.getD t undef)
inductive oo where
 |normal
 |exit (id:Nat)
 |goto (l:Nat)
 |ret
def lift(E:Nu)(n:Nat)(Q:oo->Sl->Hp->Prop):Exit->Act->World->Prop
 | .normal,a,w=>∃T H,Inv E n T H a w/\Q .normal T H
 | .exit id,a,w=>∃T H,Inv E n T H a w/\Q (.exit id) T H
 | .goto l,a,w=>∃T H,Inv E n T H a w/\Q (.goto l) T H
 | .ret,a,w=>∃T H,Inv E n T H a w/\Q .ret T H
 |_,_,_=>False
class Rd where
 r:Option Nat
instance Zx:Rd:=⟨none⟩
def Nv(r:Option Nat):Fence:={Fence.wide with round:=r}
theorem F6{r:Option Nat}{n:Nat}{P:Program}{f:FuncId}{args:Array Value}{w:World}{R:Ending->World->Prop}(h:Calls P f args w R):CallsIn (Nv r) n P f args w R:=
 (callsIn_wide (n:=n)).2 h
theorem IU{r:Option Nat}{n:Nat}{P:Program}{row:String}{args:Array Value}{w:World}{R:Value->World->Prop}(h:Rows P row args w R):RowsIn (Nv r) n P row args w R:=λc cs _=>by
 obtain⟨v,w',h1,h2⟩:=h c cs
 exact⟨v,w',h1,stepsIn_wide.2 h2⟩
theorem IV{r:Option Nat}{P:Program}{o:Oper}{a:Act}{w:World}{N:Act->World->Prop}{Q:Exit->Act->World->Prop}(h:o.wp P a w (λa' w'=>a'.defers=a.defers/\N a' w') Q)(hQ:∀c a w,¬Q (.panic c) a w):o.wpIn (Nv r) 3 P a w N Q:=by
 unfold Oper.wp at h
 refine⟨λ_ _=>trivial,?_⟩
 have hnd:∀c,o.op≠.defer c:=by
  intro c hc
  unfold execOp at h
  rw[hc] at h
  simp only[Sem.run_bind] at h
  generalize (resolve a.eval c o.type).run P w=x at h
  cases x with
  |ok d w'=>
   simp only[Result.andThen_ok,Sem.run_pure,Oper.upon] at h
   have h1:=h.1
   simp[Act.put] at h1
   split at h1<;>simp at h1
  |halt x w'=>
   cases x<;>simp only[Result.andThen,Oper.upon] at h
   exact hQ _ _ _ h
 rw[Oper.semAt_eq _ _ _ hnd]
 generalize (execOp a.eval o).run P w=x at h
 cases x with
 |ok y w'=>
  cases y<;>simp only[Oper.upon,Oper.uponIn] at h⊢
  case value v=>exact h.2
  case skip=>exact h.2
  case defer d=>exact h.2
  case enter f args=>exact⟨λhh=>(by cases hh),F6 (h.mono λe w'' he=>by cases e<;>first|exact he.2|exact he)⟩
  case row row args=>exact⟨λhh=>(by cases hh),IU (λc cs=>by obtain⟨v,w'',h1,h2⟩:=h c cs;exact⟨v,w'',h1.2,h2⟩)⟩
 |halt y w'=>cases y<;>simp only[Oper.upon,Oper.uponIn] at h⊢ <;>exact h
theorem put_defers(a:Act)(d:Option Nat)(x:Value):(a.put d x).defers=a.defers:=by unfold Act.put;split<;>rfl
def AW[Rd](P:Program)(n:Nat)(c:Code)(Q:oo->Sl->Hp->Prop)(T:Sl)(H:Hp):Prop:=
 ∀E a w,Inv E n T H a w->c.wpIn (Nv Rd.r) 3 P (lift E n Q) a w
def qR[Rd](P:Program)(n:Nat)(ops:Array Oper)(Q:oo->Sl->Hp->Prop)(rest:List Oper)(T:Sl)(H:Hp):Prop:=
 ∀E a w,Inv E n T H a w->wpListIn (Nv Rd.r) 3 P ops (lift E n Q) rest a w
def ku(N:Sl->Hp->Prop)(Q:oo->Sl->Hp->Prop):oo->Sl->Hp->Prop
 | .normal,T,H=>N T H
 |e,T,H=>Q e T H
def jO(id:Nat)(Q:oo->Sl->Hp->Prop):oo->Sl->Hp->Prop
 | .exit id',T,H=>if id'=id then Q .normal T H else Q (.exit id') T H
 |e,T,H=>Q e T H
section
variable [Rd] {P:Program} {n:Nat} {Q:oo->Sl->Hp->Prop} {T:Sl} {H:Hp}
theorem LM{E:Nu}{Q':oo->Sl->Hp->Prop}(h:∀e T H,Q e T H->Q' e T H):∀e a w,lift E n Q e a w->lift E n Q' e a w:=by
 intro e a w hh
 cases e<;>first|exact hh.elim|(obtain⟨T,H,hi,hq⟩:=hh;exact⟨T,H,hi,h _ _ _ hq⟩)
theorem AW.mono{c:Code}{Q':oo->Sl->Hp->Prop}(h:AW P n c Q T H)(hq:∀e T H,Q e T H->Q' e T H):AW P n c Q' T H:=
 λE a w hi=>wpIn_mono (h E a w hi) (LM hq)
theorem AW.skip(h:Q .normal T H):AW P n .skip Q T H:=λ_ _ _ hi=>wpIn_skip ⟨T,H,hi,h⟩
theorem AW.exit{id:Nat}(h:Q (.exit id) T H):AW P n (.exit id) Q T H:=λ_ _ _ hi=>wpIn_exit ⟨T,H,hi,h⟩
theorem AW.ret(h:Q .ret T H):AW P n .ret Q T H:=λ_ _ _ hi=>wpIn_ret ⟨T,H,hi,h⟩
theorem AW.seq{x y:Code}(h:AW P n x (ku (AW P n y Q) Q) T H):AW P n (.seq x y) Q T H:=by
 intro E a w hi
 refine wpIn_seq<|wpIn_mono (h E a w hi)<|?_
 intro e a' w' hh
 cases e with
 |normal=>obtain⟨T',H',hi',hq⟩:=hh;exact hq E a' w' hi'
 |exit id=>exact hh
 |goto l=>exact hh
 |ret=>exact hh
 |panic ch=>exact hh.elim
 |outgrown=>exact hh.elim
theorem AW.block{id:Nat}{c:Code}(h:AW P n c (jO id Q) T H):AW P n (.block id c) Q T H:=by
 intro E a w hi
 refine wpIn_block<|wpIn_mono (h E a w hi)<|?_
 intro e a' w' hh
 cases e with
 |normal=>exact hh
 |exit id'=>
  obtain⟨T',H',hi',hq⟩:=hh
  simp only[Exit.inBlock]
  simp only[jO] at hq
  split
  ·rw[if_pos (by assumption)] at hq;exact⟨T',H',hi',hq⟩
  ·rw[if_neg (by assumption)] at hq;exact⟨T',H',hi',hq⟩
 |goto l=>exact hh
 |ret=>exact hh
 |panic ch=>exact hh.elim
 |outgrown=>exact hh.elim
def ev(T:Sl):Operand->AV
 | .tmp t=>T t
 | .const x=> .v x
 | .global g=> .v (.pointer (some ⟨g,0,none⟩))
 | .func f=> .lW f []
theorem iA{ρ:fK}{H:Hp}{a:Act}{w:World}(h:∀t,dL (bK ρ H) ρ w (T t) (a.tmps.getD t undef))(x:Operand):dL (bK ρ H) ρ w (ev T x) (a.eval x):=by
 cases x with
 |tmp t=>exact h t
 |const x=>exact .v x
 |global g=>exact .v _
 |func f=>exact .lW f [] [] U (λj u x h=>by simp at h)
theorem aP{ok:Nat->Prop}{ρ:fK}{w:World}{x y:Value}(h:dL ok ρ w (.v x) y):y=x:=by cases h;rfl
theorem AW.cond{c:Operand}{x y:Code}(b:Bool)(hc:ev T c=.v (.bool b))(ht:b=true->AW P n x Q T H)(hf:b=false->AW P n y Q T H):AW P n (.cond c x y) Q T H:=by
 intro E a w hi
 obtain⟨ρ,h1,h2,h3⟩:=hi.rel
 have:=iA h3 c
 rw[hc] at this
 have hb:=aP this
 refine wpIn_cond_split hb (λh=>ht h E a w hi) (λh=>hf h E a w hi)
theorem AW.loop{c:Code}(ag:Nat->Sl->Hp->Prop)(m:Nat)(h0:ag m T H)
 (round:∀m T H,ag m T H->AW P n c (ku (λT' H'=>∃m',m'<m/\ag m' T' H') Q) T H):AW P n (.loop c) Q T H:=by
 intro E a w hi
 refine wpIn_loop_ghost (λm a w=>∃T H,ag m T H/\Inv E n T H a w) m ⟨T,H,h0,hi⟩<|?_
 rintro m a w ⟨T,H,hI,hi⟩
 refine wpIn_mono (round m T H hI E a w hi)<|?_
 intro e a' w' hq
 cases e with
 |normal=>
  obtain⟨T1,H1,hi1,m',hlt,hI1⟩:=hq
  exact⟨m',hlt,T1,H1,hI1,hi1⟩
 |exit id=>exact hq
 |goto l=>exact hq
 |ret=>exact hq
 |panic ch=>exact hq.elim
 |outgrown=>exact hq.elim
theorem AW.IW{id:Nat}{l:List Oper}(h:qR P n l.toArray Q l T H):AW P n (.region id l.toArray false) Q T H:=
 λE a w hi=>wpIn_region_lit (h E a w hi)
theorem qR.nil{ops:Array Oper}(h:Q .normal T H):qR P n ops Q [] T H:=λ_ _ _ hi=>⟨T,H,hi,h⟩
def upd(T:Sl)(d:Nat)(u:AV):Sl:=λt=>if t=d then u else T t
def F7(n:Nat)(T:Sl)(d:Option Nat)(u:AV):Sl:=match d with
 |some d=>if d<n then upd T d u else T
 |none=>T
theorem DN{ok:Nat->Prop}{ρ:fK}{w:World}{a:Act}{u:AV}{x:Value}(hn:a.tmps.size=n)(h:∀t,dL ok ρ w (T t) (a.tmps.getD t undef))(d:Option Nat)(hx:dL ok ρ w u x):
 ∀t,dL ok ρ w (F7 n T d u t) ((a.put d x).tmps.getD t undef):=by
 intro t
 cases d with
 |none=>exact h t
 |some d=>
  simp only[F7,Act.put]
  by_cases hd:d<n
  ·rw[if_pos hd]
   unfold upd
   by_cases ht:t=d
   ·subst ht
    rw[if_pos U]
    have:(a.tmps.setIfInBounds t x).getD t undef=x:=by simp[Array.getD,hn,hd]
    rw[this];exact hx
   ·rw[if_neg ht]
    have:(a.tmps.setIfInBounds d x).getD t undef=a.tmps.getD t undef:=by
     rw[Array.getD_eq_getD_getElem?,Array.getD_eq_getD_getElem?,Array.getElem?_setIfInBounds_ne (Ne.symm ht)]
    rw[this];exact h t
  ·rw[if_neg hd]
   have:a.tmps.setIfInBounds d x=a.tmps:=by
    apply Array.ext_getElem?
    intro i
    rw[Array.getElem?_setIfInBounds]
    split
    ·rename_i hi;subst hi;rw[if_neg (by omega),Array.getElem?_eq_none (by omega)]
    ·rfl
   rw[this];exact h t
def Does(P:Program)(n:Nat)(ops:Array Oper)(o:Oper)(T:Sl)(H:Hp)(K:AV->Hp->Prop):Prop:=
 ∀(a:Act) (w:World) (ρ:fK),a.tmps.size=n->a.defers=a.defers->dG ρ H w->(∀t,dL (bK ρ H) ρ w (T t) (a.tmps.getD t undef))->
  ∀(N:Act->World->Prop) (Q:Exit->Act->World->Prop),
   (∀x w' ρ' u H',dG ρ' H' w'->Ext ρ H w ρ' H' w'->dL (bK ρ' H') ρ' w' u x->K u H'->N (a.put o.dst x) w')->
   if Region.wanted o (yielded ops a.tmps)=true then o.wp P a w N Q else N (a.put o.dst undef) w
theorem Does.mono{ops:Array Oper}{o:Oper}{K K':AV->Hp->Prop}(h:Does P n ops o T H K)(hk:∀u H,K u H->K' u H):Does P n ops o T H K':=
 λa w ρ h1 h2 h3 h4 N Q hN=>h a w ρ h1 h2 h3 h4 N Q (λx w' ρ' u H' a1 a2 a3 a4=>hN x w' ρ' u H' a1 a2 a3 (hk _ _ a4))
theorem qR.cons{ops:Array Oper}{o:Oper}{rest:List Oper}(h:Does P n ops o T H (λu H'=>qR P n ops Q rest (F7 n T o.dst u) H')):qR P n ops Q (o::rest) T H:=by
 intro E a w hi
 obtain⟨ρ,h1,h2,h3⟩:=hi.rel
 have hh:=h a w ρ hi.size U h1 h3 (λa' w'=>a'.defers=a.defers/\wpListIn (Nv Rd.r) 3 P ops (lift E n Q) rest a' w') (lift E n Q) (λx w' ρ' u H' a1 a2 a3 a4=>⟨put_defers _ _ _,a4 E _ w' ⟨by simp only[Act.put];split<;>simp[hi.size],by rw[put_defers];exact hi.defers.step h1 a2,ρ',a1,h2.trans a2,DN hi.size (λt=>a2.rep (h3 t)) o.dst a3⟩⟩)
 unfold wpListIn
 split
 ·rename_i hw
  rw[if_pos hw] at hh
  exact IV hh (λc a w h=>h)
 ·rename_i hw
  rw[if_neg hw] at hh
  exact⟨λ_ _=>trivial,hh.2⟩
theorem Does.val{ops:Array Oper}{o:Oper}{K:AV->Hp->Prop}(u:AV)(hg:o.guard=none)
 (h:∀(a:Act) (w:World) (ρ:fK),dG ρ H w->(∀x:Operand,dL (bK ρ H) ρ w (ev T x) (a.eval x))->∃x,(execOp a.eval o).run P w=.ok (.value x) w/\dL (bK ρ H) ρ w u x) (hk:K u H):Does P n ops o T H K:=by
 intro a w ρ h1 h2 h3 h4 N Q hN
 rw[if_pos (by simp[Region.wanted,hg])]
 obtain⟨x,hx,hr⟩:=h a w ρ h3 (iA h4)
 unfold Oper.wp
 rw[hx]
 exact hN x w ρ u H h3 (Ext.refl _ _ _) hr hk
def IX(ok:Nat->Prop)(ρ:fK)(w:World)(us:List AV)(xs:List Value):Prop:=
 us.length=xs.length/\∀(j:Nat) (u:AV) (x:Value),us[j]? =some u->xs[j]? =some x->dL ok ρ w u x
def xK(P:Program)(f:FuncId):Prop:=∃fn,P.funcs[f]? =some fn/\(fn.name== "runtime.NumGoroutine")=false/\fn.body.isNone=false
def F(P:Program)(f:FuncId)(us:List AV)(H:Hp)(K:AV->Hp->Prop):Prop:=
 xK P f/\∀ρ w vals,dG ρ H w->IX (bK ρ H) ρ w us vals->
  Calls P f vals.toArray w λe w'=>∃x ρ' u H',e=.returned x/\dG ρ' H' w'/\Ext ρ H w ρ' H' w'/\dL (bK ρ' H') ρ' w' u x/\K u H'
theorem F.mono{f:FuncId}{us:List AV}{K K':AV->Hp->Prop}(h:F P f us H K)(hk:∀u H,K u H->K' u H):F P f us H K':=
 ⟨h.1,λρ w vals h1 h2=>(h.2 ρ w vals h1 h2).mono λ_ _ ⟨x,ρ',u,H',a,b,c,d,e⟩=>⟨x,ρ',u,H',a,b,c,d,hk _ _ e⟩⟩
inductive vB (P:Program) (T:Sl) (H:Hp):ResultVar->AV->Prop
 |tmp (t:Nat):vB P T H (.tmp t) (T t)
 |cell (a t id e:Nat) (l:List AV) (h1:T a=.ptr id 0) (h2:H id=some (.box e l)) (hd:∃d,P.underlying t=some d/\(match d with| .struct _| .array _ _=>true|_=>false)=true) (hs:(P.info? t).map (·.size)=some l.length):vB P T H (.cell a t) (.agg l)
 |cell1 (a t id e:Nat) (u:AV) (h1:T a=.ptr id 0) (h2:H id=some (.box e [u])) (hd:∃d,P.underlying t=some d/\(match d with| .struct _| .array _ _=>true|_=>false)=false):vB P T H (.cell a t) u
def LP(P:Program)(T:Sl)(H:Hp)(fn:Func)(u:AV):Prop:=
 (∃r,fn.results= #[r]/\vB P T H r u)\/(∃rs us,fn.results=List.toArray rs/\rs.length≠1/\u=.dH us/\rs.length=us.length/\∀(j:Nat) r v,rs[j]? =some r->us[j]? =some v->vB P T H r v)
theorem nA{ρ:fK}{w:World}{id e:Nat}{l:List AV}{x:Value}{off:Nat}(h:dG ρ H w)(h2:H id=some (.box e l))(hr:dL (bK ρ H) ρ w (.ptr id off) x):
 ∃g vals,x=.pointer (some ⟨g,off,none⟩)/\ρ id=some (.pointer (some ⟨g,0,none⟩))/\w.heap[g]? =some (.cells (List.toArray vals) e (0,0))/\aZ (bK ρ H) ρ w l vals:=by
 obtain⟨v,hv,g,vals,rfl,hg,hc⟩:=h.ob id _ h2
 cases hr with
 |ptr _ _ g' x' hx hx'=>
  rw[hv] at hx
  cases hx
  rcases hx' with h3|⟨_,_,h3⟩
  ·cases h3
   exact⟨g,vals,rfl,hv,hg,hc⟩
  ·cases h3
theorem kN{ok:Nat->Prop}{ρ:fK}{w:World}{l:List AV}{vals:List Value}(h:aZ ok ρ w l vals):dL ok ρ w (.agg l) (.agg vals.toArray):=
 .agg l vals h.1 (λj u x a b=>(h.2 j u x a b).1)
def zH(tmps:Array Value):ResultVar->Sem Value
 | .tmp t=>pure (tmps.getD t undef)
 | .cell a t=>do loadVar t (<-asAddr (tmps.getD a undef))
theorem zI(fn:Func)(tmps:Array Value):results fn tmps=(do let vs <-fn.results.mapM (zH tmps);pure (if h:vs.size=1 then vs[0] else .tuple vs)):=by
 unfold results
 congr 1
theorem F8{ρ:fK}{w:World}{a:Act}{r:ResultVar}{u:AV}(h:dG ρ H w)(hT:∀t,dL (bK ρ H) ρ w (T t) (a.tmps.getD t undef))(hr:vB P T H r u):
 ∃x,(zH a.tmps r).run P w=.ok x w/\dL (bK ρ H) ρ w u x:=by
 cases hr with
 |tmp t=>exact⟨_,rfl,hT t⟩
 |cell ad t id e l h1 h2 hd hs=>
  have:=hT ad
  rw[h1] at this
  obtain⟨g,vals,hx,_,hg,hc⟩:=nA h h2 this
  obtain⟨d,hd,hd2⟩:=hd
  refine⟨.agg vals.toArray,?_,kN hc⟩
  simp only[zH,hx,asAddr]
  have h5:=run_loadVar_row (P:=P) w g e t vals.toArray (0,0) _ hg hd (by cases d<;>first|rfl|cases hd2) (by rw[hs,hc.1];simp)
  simpa using h5
 |cell1 ad t id e u h1 h2 hd=>
  have:=hT ad
  rw[h1] at this
  obtain⟨g,vals,hx,_,hg,hc⟩:=nA h h2 this
  obtain⟨d,hd,hd2⟩:=hd
  obtain⟨v,rfl⟩:∃v,vals=[v]:=List.length_eq_one_iff.1 (by rw[<-hc.1];rfl)
  refine⟨v,?_,(hc.2 0 u v U U).1⟩
  simp only[zH,hx,asAddr]
  have hcell:w.cell? ⟨g,0,none⟩=some v:=by simp[World.cell?,hg]
  have hu:=run_underlying (w:=w) hd
  cases d<;>simp_all[loadVar,isAgg,go_sem]
theorem F.PY{f:FuncId}{us:List AV}{K:AV->Hp->Prop}{fn:Func}{c:Code}(hf:P.funcs[f]? =some fn)(hname:(fn.name== "runtime.NumGoroutine")=false)(hb:fn.body=some c)
 (hn:us.length+(fn.ntmps-us.length)=n) (h: @AW Zx P n c (λe T' H'=>(match e with| .normal| .ret=>True|_=>False)/\∃u H2,LP P T' H' fn u/\Sub H2 H'/\K u H2) (λt=>us.getD t .any) H):F P f us H K:=by
 subst hn
 refine⟨⟨fn,hf,hname,by rw[hb];rfl⟩,?_⟩
 intro ρ w vals hr ha
 refine(callsIn_wide (n:=3)).1<|callsIn_of_wp_marks hf hb trivial<|?_
 have hi:Inv ⟨ρ,H,w⟩ (us.length+(fn.ntmps-us.length)) (λt=>us.getD t .any) H {tmps:=vals.toArray++Array.replicate (fn.ntmps-vals.toArray.size) undef,defers:=[]} w:=by
  refine⟨by simp[ha.1],.none,ρ,hr,Ext.refl _ _ _,λt=>?_⟩
  by_cases ht:t<us.length
  ·have h1:us[t]? =some us[t]:=List.getElem?_eq_getElem ht
   have ht':t<vals.length:=by rw[<-ha.1];exact ht
   have h2:vals[t]? =some vals[t]:=List.getElem?_eq_getElem ht'
   have h3:=ha.2 t _ _ h1 h2
   have e1:us.getD t .any=us[t]:=by simp[List.getD_eq_getElem?_getD,h1]
   have e2:(vals.toArray++Array.replicate (fn.ntmps-vals.toArray.size) undef).getD t undef=vals[t]:=by
    rw[Array.getD_eq_getD_getElem?,Array.getElem?_append_left (by simpa using ht')]
    simp[ht']
   show dL _ _ _ (us.getD t .any) _
   rw[e1,e2];exact h3
  ·have e1:us.getD t .any=.any:=by simp[List.getD_eq_getElem?_getD,List.getElem?_eq_none (Nat.le_of_not_lt ht)]
   show dL _ _ _ (us.getD t .any) _
   rw[e1];exact .any _
 refine wpIn_mono (h _ _ _ hi)<|?_
 intro e a' w' hh
 have fin:∀T' H' ρ' w',dG ρ' H' w'->Ext ρ H w ρ' H' w'->(∀t,dL (bK ρ' H') ρ' w' (T' t) (a'.tmps.getD t undef))->(∃u H2,LP P T' H' fn u/\Sub H2 H'/\K u H2)->
  ∃v,(results fn a'.tmps).run P w'=.ok v w'/\∃x ρ' u H',Ending.returned v=.returned x/\dG ρ' H' w'/\Ext ρ H w ρ' H' w'/\dL (bK ρ' H') ρ' w' u x/\K u H':=by
  intro T' H' ρ' w' h1 h2 h3 ⟨u,H2,hres,hs,hK⟩
  have hE:=Ext.drop (ρ:=ρ') hs w'
  rcases hres with ⟨r,hr1,hr2⟩|⟨rs,lu,hr1,hlen,rfl,hl,hr2⟩
  ·obtain⟨x,hx,hrep⟩:=F8 (a:=a') h1 h3 hr2
   refine⟨x,?_,x,ρ',u,H2,rfl,h1.drop hs,h2.trans hE,hE.rep hrep,hK⟩
   rw[zI,hr1]
   simp[go_sem,hx]
  ·have hall:∀(rs:List ResultVar) (lu:List AV),rs.length=lu.length->(∀(j:Nat) r v,rs[j]? =some r->lu[j]? =some v->vB P T' H' r v)->
    ∃xs:List Value,(rs.mapM (zH a'.tmps)).run P w'=Result.ok xs w'/\lu.length=xs.length/\∀(j:Nat) v x,lu[j]? =some v->xs[j]? =some x->dL (bK ρ' H') ρ' w' v x:=by
    intro rs
    induction rs with
    |nil=>intro lu hl _;cases lu with|nil=>exact⟨[],rfl,rfl,λj v x h=>by simp at h⟩|cons _ _=>simp at hl
    |cons r rs ih=>
     intro lu hl hr
     cases lu with
     |nil=>simp at hl
     |cons u0 lu=>
      obtain⟨x,hx,hrep⟩:=F8 (a:=a') h1 h3 (hr 0 r u0 rfl rfl)
      obtain⟨xs,hxs,hl2,Cg⟩:=ih lu (by simpa using hl) (λj r v hj hv=>hr (j+1) r v (by simpa using hj) (by simpa using hv))
      refine⟨x::xs,?_,by simp[hl2],λj v y hv hy=>?_⟩
      ·rw[List.mapM_cons]
       simp[go_sem,hx,hxs]
      ·cases j with
       |zero=>simp at hv hy;subst hv hy;exact hrep
       |succ j=>exact Cg j v y (by simpa using hv) (by simpa using hy)
   obtain⟨xs,hxs,hl2,Cg⟩:=hall rs lu hl hr2
   refine⟨.tuple xs.toArray,?_,_,ρ',.dH lu,H2,rfl,h1.drop hs,h2.trans hE,hE.rep (.dH lu xs hl2 Cg),hK⟩
   rw[zI,hr1,List.mapM_toArray]
   have:xs.length≠1:=by rw[<-hl2,<-hl];exact hlen
   simp[go_sem,hxs,this]
 have WM:∀T' H' w',Inv ⟨ρ,H,w⟩ (us.length+(fn.ntmps-us.length)) T' H' a' w'->(∃u H2,LP P T' H' fn u/\Sub H2 H'/\K u H2)->
  LeavesInM Fence.wide 3 P fn a'.tmps (λe w'=>∃x ρ' u H',e=.returned x/\dG ρ' H' w'/\Ext ρ H w ρ' H' w'/\dL (bK ρ' H') ρ' w' u x/\K u H') a'.defers .returning w':=by
  intro T' H' w' hi' hq
  obtain⟨ρ',h1,h2,h3⟩:=hi'.rel
  obtain⟨Ds,hd,hnd,hD⟩:=hi'.defers
  rw[hd]
  clear hd hi'
  induction Ds generalizing w' with
  |nil=>exact fin T' H' ρ' w' h1 h2 h3 hq
  |cons D Ds ih=>
   have hD0:=hD D (List.mem_cons_self ..)
   have k:=IQ h1 hD0.2
   refine⟨by simp,.inl ⟨D,_,rfl,run_takeDeferred hD0.2,?_⟩⟩
   refine ih _ (h1.off k) ⟨k.os.trans h2.os,k.tape.trans h2.tape,k.output.trans h2.output,Nat.le_trans h2.size k.size,λj hj hn=>?_,h2.own,h2.F4⟩ (λt=>(h3 t).off k.cell k.size) (List.nodup_cons.1 hnd).2 (λD' hD'=>⟨(hD D' (List.mem_cons_of_mem _ hD')).1,?_⟩)
   ·rw[World.putObj_heap_other (λe=>by subst e;exact absurd hj (by have:w.heap.size<=j:=hD0.1;omega))]
    exact h2.block j hj hn
   ·rw[World.putObj_heap_other (λe=>by subst e;exact(List.nodup_cons.1 hnd).1 hD')]
    exact(hD D' (List.mem_cons_of_mem _ hD')).2
 cases e with
 |normal=>obtain⟨T',H',hi',_,hq⟩:=hh;exact WM T' H' _ hi' hq
 |ret=>obtain⟨T',H',hi',_,hq⟩:=hh;exact WM T' H' _ hi' hq
 |exit id=>obtain⟨T',H',hi',hf,_⟩:=hh;exact hf.elim
 |goto l=>obtain⟨T',H',hi',hf,_⟩:=hh;exact hf.elim
 |panic ch=>exact hh.elim
 |outgrown=>exact hh.elim
end
end Go.gW
end
