/- A part of the proof. -/
import Derived.Test.YtbooeongacgnbaaGreatDoorMw16
import Derived.Test.YtbooeongacgnbaaGreatDoorRows
import Derived.Test.YtbooeongacgnbaaGreatDoorMw17
import Derived.ProofKit
import Derived.MakeChecks
import Derived.LaidMore
import Derived.LaidOnce
import Derived.Stop.LaidErr
import Derived.Stop.Joined
import Derived.SevenTiedAt
import Derived.ShutString
import Derived.ChangeMaps5
import Derived.Lay
import Derived.Lib.LaidCase
import Derived.Lib.LaidU8T
set_option maxRecDepth 100000
set_option maxHeartbeats 4000000
set_option linter.unusedSectionVars false
set_option linter.unusedVariables false
set_option linter.unusedSimpArgs false
section
namespace Go.Proofs.YtbooeongacgnbaaGreatDoor
open Go Go.ChangeAt Go.ChangeShapes Go.gW Go.RowKit Go.WideShapes
def CQ(W:World):Prop:=∃ρ H,dG ρ H W/\(∀k,¬gW.Own ρ H k)/\∃ga gb,bO ga gb H
theorem lV{w W:World}{b:Nat}(h:w.heap[b]? =W.heap[b]?)(o:Nat)(sp:Option Nat)(a:Addr)(ha:a.block=b):w.cell? a=W.cell? a:=by
 subst ha
 unfold World.cell?
 rw[h]
theorem var_eq{w W:World}{name:String}{b:Nat}(hb:Tryz.prog.globalNamed name=some b)(h:w.heap[b]? =W.heap[b]?):w.var? Tryz.prog name=W.var? Tryz.prog name:=by
 unfold World.var?
 rw[hb]
 simp only[Option.bind_some]
 rw[h]
theorem ER{W:World}{name:String}{b:Nat}{cs:Array Value}(hb:Tryz.prog.globalNamed name=some b)(h:W.var? Tryz.prog name=some cs):∃t p,W.heap[b]? =some (.cells cs t p):=by
 unfold World.var? at h
 rw[hb] at h
 simp only[Option.bind_some] at h
 split at h
 ·rename_i cs t p e
  cases h
  exact⟨t,p,e⟩
 ·cases h
theorem wY{W:World}{a:Addr}{v:Value}(h:W.cell? a=some v):∃c t p,W.heap[a.block]? =some (.cells c t p):=by
 unfold World.cell? at h
 split at h
 ·rename_i c t p e;exact⟨c,t,p,e⟩
 ·cases h
theorem Og{W:World}{ga gb:Addr}(hF:Facts ga gb W):CQ W:=by
 have n0:Tryz.prog.globalNamed "internal/strconv.uint64pow10" =some 0:=by kernel_rfl
 have n1:Tryz.prog.globalNamed "strconv.ErrSyntax" =some 1:=by kernel_rfl
 have n7:Tryz.prog.globalNamed "strconv.ErrRange" =some 7:=by kernel_rfl
 obtain⟨t0,p0,e0⟩:=ER n0 hF.tab
 obtain⟨t1,p1,e1⟩:=ER n1 hF.Yf
 obtain⟨t7,p7,e7⟩:=ER n7 hF.ran
 obtain⟨ca,ta,ea⟩:=hF.ca
 obtain⟨cb,tb,eb⟩:=hF.cb
 obtain⟨R,oR,cap,hc1,hc2⟩:=hF.ZL
 obtain⟨c8,t8,p8,e8⟩:=wY hc1
 obtain⟨cR,tR,pR,eR⟩:=wY (hc2 0 (by rw[Lib.caseA_size];decide)).1
 obtain⟨c5,t5,p5,e5⟩:=wY (hF.yL.1 0 (by decide))
 obtain⟨c6,t6,p6,e6⟩:=wY (hF.yL.2 0 (by decide)).1
 dsimp only at e8 eR e5 e6
 let g:Nat->Nat:=λi=>match i with
  |0=>0|1=>1|2=>7|3=>ga.block|4=>gb.block|5=>8|6=>R|7=>5|_=>6
 have hx:∀i,i<9->∃c t p,W.heap[g i]? =some (.cells c t p):=λi hi=>by
  match i,hi with
  |0,_=>exact⟨_,_,_,e0⟩
  |1,_=>exact⟨_,_,_,e1⟩
  |2,_=>exact⟨_,_,_,e7⟩
  |3,_=>exact⟨_,_,_,ea⟩
  |4,_=>exact⟨_,_,_,eb⟩
  |5,_=>exact⟨_,_,_,e8⟩
  |6,_=>exact⟨_,_,_,eR⟩
  |7,_=>exact⟨_,_,_,e5⟩
  |8,_=>exact⟨_,_,_,e6⟩
 let x:Nat->Obj:=λi=>(W.heap[g i]?).getD (.cells #[] 0 (0,0))
 have nD:∀i,i<9->W.heap[g i]? =some (x i)/\∃c t p,x i=.cells c t p:=λi hi=>by
  obtain⟨c,t,p,h⟩:=hx i hi
  have:x i=.cells c t p:=by show(W.heap[g i]?).getD _=_;rw[h];rfl
  exact⟨by rw[this];exact h,c,t,p,this⟩
 let H:Hp:=λi=>if i<9 then some (.raw (g i) (x i)) else none
 let ρ:fK:=λi=>if i<9 then some (.bool true) else none
 have hb:∀i v,ρ i=some v->v=.bool true:=λi v h=>by
  simp only[ρ] at h
  split at h
  ·cases h;rfl
  ·cases h
 have hno:∀k,¬gW.Own ρ H k:=by
  rintro k ⟨i,ob,v,_,h2,h3⟩
  rw[hb i v h2] at h3
  cases h3
 refine⟨ρ,H,⟨?_,?_,⟨9,λid h=>if_neg (by omega)⟩,λi v k h2 h3=>by rw[hb i v h2] at h3;cases h3⟩,hno,ga,gb,g,x,λi hi=>if_pos hi,?_⟩
 ·intro i ob h
  simp only[H] at h
  split at h
  ·rename_i hi
   cases h
   obtain⟨h1,h2⟩:=nD i hi
   obtain⟨c,t,p,h2⟩:=h2
   exact⟨.bool true,if_pos hi,rfl,hno _,h1,c,t,p,h2⟩
  ·cases h
 ·intro i i' ob zF v v' k _ _ h3 _ h5 _
  rw[hb i v h3] at h5
  cases h5
 ·intro w hw
  have hh:∀i,i<9->w.heap[g i]? =W.heap[g i]? :=λi hi=>by rw[hw i hi,(nD i hi).1]
  have h0:=hh 0 (by decide)
  have h1:=hh 1 (by decide)
  have h2:=hh 2 (by decide)
  have h3:=hh 3 (by decide)
  have h4:=hh 4 (by decide)
  have h5:=hh 5 (by decide)
  have h6:=hh 6 (by decide)
  have h7:=hh 7 (by decide)
  have h8:=hh 8 (by decide)
  refine⟨?_,⟨R,oR,cap,?_,λi hi=>?_⟩,⟨λc hc=>?_,λi hi=>?_⟩,?_,?_,hF.ne,⟨ca,ta,?_⟩,⟨cb,tb,?_⟩⟩
  ·show w.var? Tryz.prog _=_
   rw[var_eq n0 h0];exact hF.tab
  ·rw[lV h5 0 none _ U];exact hc1
  ·rw[lV h6 0 none _ U,lV h6 0 none _ U,lV h6 0 none _ U,lV h6 0 none _ U,lV h6 0 none _ U];exact hc2 i hi
  ·rw[lV h7 0 none _ U];exact hF.yL.1 c hc
  ·rw[lV h8 0 none _ U,lV h8 0 none _ U];exact hF.yL.2 i hi
  ·rw[var_eq n1 h1];exact hF.Yf
  ·rw[var_eq n7 h2];exact hF.ran
  ·exact h3.trans ea
  ·exact h4.trans eb
theorem Tq: "*" ++ "errors.errorString" = "*errors.errorString" :=by decide
theorem Xk(u:TypeId)(h:Tryz.prog.typeName? 3 u=some "*errors.errorString"):u=204:=
 typeName_ptr_named (nm:= "errors.errorString") (by rw[Tq];kernel_rfl) (by kernel_rfl) (by decide) u (by rw[Tq];exact h)
theorem UO{W:World}{r:List (String×DataW Unit)}(h:laidMet Tryz.prog (("strconv.ErrRange",Rows.laid_strconv_ErrRange)::("strconv.ErrSyntax",Rows.laid_strconv_ErrSyntax)::r) W):
 ∃(gb ga:Addr),W.var? Tryz.prog "strconv.ErrRange" =some #[.iface 204 (.pointer (some gb))]/\W.var? Tryz.prog "strconv.ErrSyntax" =some #[.iface 204 (.pointer (some ga))]/\gb≠ga/\
  (∃c t,W.heap[ga.block]? =some (.cells c t (0,0)))/\∃c t,W.heap[gb.block]? =some (.cells c t (0,0)):=by
 have n1:Tryz.prog.globalNamed "strconv.ErrSyntax" =some 1:=by kernel_rfl
 have n7:Tryz.prog.globalNamed "strconv.ErrRange" =some 7:=by kernel_rfl
 have y1:(Tryz.prog.globals[1]?).map (·.type)=some 62:=by kernel_rfl
 have y7:(Tryz.prog.globals[7]?).map (·.type)=some 62:=by kernel_rfl
 obtain⟨ps,⟨g0,t0,cs0,f0,p0,q0,hg0,ht0,hv0,hd0,⟨g1,t1,cs1,f1,p1,q1,hg1,ht1,hv1,hd1,hq1,e1⟩,e0⟩,hnd,hrows⟩:=h
 obtain rfl:=Option.some.inj (n7.symm.trans hg0)
 obtain rfl:=Option.some.inj (n1.symm.trans hg1)
 obtain rfl:=Option.some.inj (y7.symm.trans ht0)
 obtain rfl:=Option.some.inj (y1.symm.trans ht1)
 subst e1
 subst e0
 obtain⟨l0⟩:=cs0
 obtain⟨l1⟩:=cs1
 have ok0:∀u v,l0=[.iface u v]->Value.okWide Tryz.prog W .any 0 u v:=λu v e=>by
  subst e
  exact(hrows 7 0 (by simp[MemPlace.row])).2 u v (by simpa using World.var?_cell hg0 hv0 0)
 have ok1:∀u v,l1=[.iface u v]->Value.okWide Tryz.prog W .any 0 u v:=λu v e=>by
  subst e
  exact(hrows 1 0 (by simp[MemPlace.row])).2 u v (by simpa using World.var?_cell hg1 hv1 0)
 obtain⟨a0,s0,rfl,hc0,hs0,hz0,rfl⟩:=errorString_of_trod Tryz.underlying62 Xk Tryz.underlying204 Tryz.underlying206 rfl rfl Tryz.underlying9 (by kernel_rfl) (by kernel_rfl) hd0 ok0
 obtain⟨a1,s1,rfl,hc1,hs1,hz1,rfl⟩:=errorString_of_trod Tryz.underlying62 Xk Tryz.underlying204 Tryz.underlying206 rfl rfl Tryz.underlying9 (by kernel_rfl) (by kernel_rfl) hd1 ok1
 obtain⟨c0,t0,hb0⟩:=(hrows a0.block a0.off (by simp[MemPlace.row])).1
 obtain⟨c1,t1,hb1⟩:=(hrows a1.block a1.off (by simp[MemPlace.row])).1
 refine⟨a0,a1,hv0,hv1,?_,⟨c1,t1,hb1⟩,c0,t0,hb0⟩
 rintro rfl
 simp[MemPlace.row] at hnd
theorem CQ.Qu{W:World}(h:laidMetH Tryz.prog Rows.canonParsesRow.laid W):CQ W:=by
 rw[MakeChecks.laidMetH_plain _ _ _ (by kernel_rfl)] at h
 have a:=laidMet.tail (laidMet.tail h)
 have n0:Tryz.prog.globalNamed "internal/strconv.uint64pow10" =some 0:=by kernel_rfl
 have d0:(Rows.laid_internal_strconv_uint64pow10:DataW Unit)=Lib.tabData .u64 Lib.pow10Tab:=by kernel_rfl
 have d4:(Rows.laid_unicode_utf8_acceptRanges:DataW Unit)=Lib.acceptData:=by kernel_rfl
 have d3:(Rows.laid_unicode_utf8_first:DataW Unit)=Lib.firstData:=by kernel_rfl
 have d8:(Rows.laid_unicode_CaseRanges:DataW Unit)=Lib.caseData:=by kernel_rfl
 have r4:Lib.VarReads Tryz.prog W "unicode/utf8.acceptRanges" Lib.acceptData:=d4▸Lib.laidMet.reads h (.tail _ (.tail _ (.tail _ (.head _))))
 have r8:Lib.VarReads Tryz.prog W "unicode.CaseRanges" Lib.caseData:=d8▸Lib.laidMet.reads h (.tail _ (.tail _ (.tail _ (.tail _ (.tail _ (.tail _ (.head _)))))))
 have r3:Lib.VarReads Tryz.prog W "unicode/utf8.first" Lib.firstData:=d3▸Lib.laidMet.reads h (.tail _ (.tail _ (.tail _ (.tail _ (.tail _ (.tail _ (.tail _ (.head _))))))))
 obtain⟨gb,ga,hr,hs,hne,ha,hb⟩:=UO (laidMet.tail (laidMet.tail a))
 rw[d0] at a
 refine Og (ga:=ga) (gb:=gb) ⟨Lib.tabIs_of_head (t:=123) (e:=102) (n:=20) n0 (by kernel_rfl) (by kernel_rfl) (by kernel_rfl) (by kernel_rfl) (by kernel_rfl) a,?_,?_,hs,hr,hne,ha,hb⟩
 ·exact caseVar_of_reads (ρ:=Tryz.nS) {Tryz.zt with} (by kernel_rfl) ⟨by kernel_rfl,by kernel_rfl,by kernel_rfl,by kernel_rfl,by kernel_rfl,by kernel_rfl⟩ r8
 ·exact utf8Tabs_of_readsT (ρ:=Tryz.nS) {Tryz.zt with} ⟨by kernel_rfl,by kernel_rfl,by kernel_rfl,by kernel_rfl,by kernel_rfl,by kernel_rfl,by kernel_rfl⟩ r3 r4
theorem F.UR{P:Program}{f:Nat}{us:List AV}{r:Value}{ρ:fK}{H:Hp}(h:F P f us H (bn H (.v r)))(W:World)(hh:dG ρ H W)(hno:∀k,¬gW.Own ρ H k)(vals:List Value)(hv:IX (bK ρ H) ρ W us vals):
 Calls P f vals.toArray W λe w'=>e=.returned r/\Below W.heap.size W w':=
 (h.2 ρ W vals hh hv).mono λe w' ⟨x,ρ',u,H',h1,h2,h3,h4,h5,h6⟩=>⟨by rw[h1];subst h5;rw[aP h4],⟨h3.os,h3.tape,h3.output,h3.size,λk hk=>h3.block k hk (hno k)⟩⟩
theorem Tt{W:World}{ρ:fK}{H:Hp}{u:AV}{x:Value}(hno:∀k,¬gW.Own ρ H k)(h:dL (bK ky BS) ky W u x):dL (bK ρ H) ρ W u x:=h.mono (λk _ _=>⟨hno k,rfl⟩) (λ_ _ h=>by cases h)
theorem own:ownKnob Tryz.prog.godebug=none:=by kernel_rfl
noncomputable def YV (os:Os):World:=World.laidAll Tryz.prog os Rows.canonParsesRow.laid
theorem JH(os:Os)(args:Array Value):((YV os).forCall (λ_ _=>0) ⟨#[],args,[]⟩).Shaped Tryz.prog:=World.shaped_of_ZipB (by kernel_rfl) (by kernel_rfl)
theorem Oh(os:Os)(args:Array Value):laidMetH Tryz.prog Rows.canonParsesRow.laid ((YV os).forCall (λ_ _=>0) ⟨#[],args,[]⟩).memory:=by
 rw[MakeChecks.laidMetH_plain _ _ _ (by kernel_rfl)]
 exact laidMet_laidAll args (by kernel_rfl) (by kernel_rfl)
end Go.Proofs.YtbooeongacgnbaaGreatDoor
end
