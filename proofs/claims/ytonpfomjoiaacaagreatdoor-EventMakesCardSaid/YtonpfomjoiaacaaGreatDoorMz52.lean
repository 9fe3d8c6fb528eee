/- The statement heliastlaw08.EventMakes: whatever comes in, the call returns true, and all reads as it did; the card. -/
import Derived.Test.YtonpfomjoiaacaaGreatDoorMz26
import Derived.Test.YtonpfomjoiaacaaGreatDoorMz51
import Derived.Test.YtonpfomjoiaacaaGreatDoorCards
import Derived.Test.YtonpfomjoiaacaaGreatDoorTie
set_option maxRecDepth 100000
set_option maxHeartbeats 4000000
set_option linter.unusedSectionVars false
set_option linter.unusedVariables false
set_option linter.unusedSimpArgs false
section
namespace Go.Proofs.YtonpfomjoiaacaaGreatDoor.eventMakes
open Go Go.ChangeAt Go.ChangeShapes Go.fT Go.RowKit Go.WideShapes
theorem walk(c0:List Int)(v0:Value)(b0:zh c0)(c1:List Int)(v1:Value)(b1:zh c1)(a2:Int)(w2:(Lit.int .u8 a2).wf=true)(a3:Int)(w3:(Lit.int .u8 a3).wf=true)(w:World)(hL:GG w)(r0:dU (bF lV F7) lV w (BD c0) v0)(r1:dU (bF lV F7) lV w (BD c1) v1):
 Calls Tryz.prog 8 #[v0,v1,.int .u8 a2,.int .u8 a3] w λe w'=>e=.returned (.bool true)/\Below w.heap.size w w':=by
 obtain⟨ρ,H,hh,hno,hG⟩:=hL
 have h2:0<=a2/\a2<=255:=by simp only[Lit.wf,Bool.and_eq_true,decide_eq_true_eq] at w2;exact w2
 have h3:0<=a3/\a3<=255:=by simp only[Lit.wf,Bool.and_eq_true,decide_eq_true_eq] at w3;exact w3
 refine au.aaM (PL c0 c1 a2 a3 b0 b1 h2.1 h2.2 h3.1 h3.2 H hG) w hh hno [v0,v1,.int .u8 a2,.int .u8 a3] ⟨rfl,λj u x hu hx=>?_⟩
 match j with
 |0=>simp at hu hx;subst hu hx;exact Zy hno r0
 |1=>simp at hu hx;subst hu hx;exact Zy hno r1
 |2=>simp at hu hx;subst hu hx;exact .v _
 |3=>simp at hu hx;subst hu hx;exact .v _
 |j+4=>simp at hu
theorem contract(H:Type)(enc:TypeId×Value->H)(W:World)(base:Nat)(args:Array Value)(ds gs:List (DataW H))(before:List MemPlace)
 (hval:∀(j:Nat) t v,Tryz.f8.params[j]? =some t->args[j]? =some v->Value.okWide Tryz.prog W .any base t v)
 (hW:DataW.Whole enc Tryz.prog Tryz.f8.params.toList Rows.eventMakesSpec.vars false W args.toList ds gs before) (hL:laidMetH Tryz.prog Rows.eventMakesRow.laid W):
 Calls Tryz.prog 8 args W λe W'=>∃v,e=.returned v/\Rows.eventMakesSpec.post enc Tryz.prog Tryz.f8 false true false false W args v W':=by
 have hg0:GG W:=GG.V4 hL
 have hW':=hW
 have hlt:=hW.lt
 obtain⟨p,q,hA0,hV,rfl,hfz,hnd⟩:=hW
 have hA:DataW.TrodAll enc Tryz.prog W 0 (λ_=>true) true Tryz.f8.params.toList args.toList ds p:=hA0
 rw[Tryz.params8] at hA hval
 obtain⟨v0,vs0,d0,ds0,p0,q0,hargs,rfl,rfl,h0,r0⟩:=trodAll_cons hA
 obtain⟨v1,vs1,d1,ds1,p1,q1,rfl,rfl,rfl,h1,r1⟩:=trodAll_cons r0
 obtain⟨v2,vs2,d2,ds2,p2,q2,rfl,rfl,rfl,h2,r2⟩:=trodAll_cons r1
 obtain⟨v3,vs3,d3,ds3,p3,q3,rfl,rfl,rfl,h3,r3⟩:=trodAll_cons r2
 obtain⟨rfl,rfl,rfl⟩:=trodAll_nil r3
 obtain rfl:args= #[v0,v1,v2,v3]:=by cases args;simp_all
 obtain⟨rfl,rfl⟩:=trodVars_none hV
 obtain⟨a2,rfl,rfl,rfl,w2⟩:=open_int Tryz.underlying5 (hval 2 5 v2 rfl rfl) h2
 obtain⟨a3,rfl,rfl,rfl,w3⟩:=open_int Tryz.underlying5 (hval 3 5 v3 rfl rfl) h3
 clear hA0
 simp only[List.append_nil,List.nil_append] at hW' hlt
 obtain⟨c0,rep0,b0⟩:∃c,dU (bF lV F7) lV W (BD c) v0/\zh c:=by
  obtain⟨fuel,hf⟩:=h0
  exact Lt Tryz.underlying22 Tryz.underlying5 (by kernel_rfl) (okWide_slice Tryz.underlying22 (hval 0 22 v0 U U)) hf
 obtain⟨c1,rep1,b1⟩:∃c,dU (bF lV F7) lV W (BD c) v1/\zh c:=by
  obtain⟨fuel,hf⟩:=h1
  exact Lt Tryz.underlying22 Tryz.underlying5 (by kernel_rfl) (okWide_slice Tryz.underlying22 (hval 1 22 v1 U U)) hf
 refine(walk c0 v0 b0 c1 v1 b1 a2 w2 a3 w3 W hg0 rep0 rep1).mono λe W' ⟨he,hg⟩=>?_
 subst he
 exact⟨_,rfl,N9 (pa:=p0++p1) (pv:=[]) hW' (λ_ _ _=>(trodAll_cons_mk (shut_bool Tryz.underlying4 _) trodAll_mk0)) (λsp hsp=>by
  have t:=(trodAll_cons_mk (WideElems.Trod_stays (sp':=sp) (by kernel_rfl) (by kernel_rfl) (of_decide_eq_true (by kernel_rfl)) h0 (λx hx=>hg.same (hlt x (by simp[hx]))) (λx hx=>hsp x (by simp[hx]))) (trodAll_cons_mk (WideElems.Trod_stays (sp':=sp) (by kernel_rfl) (by kernel_rfl) (of_decide_eq_true (by kernel_rfl)) h1 (λx hx=>hg.same (hlt x (by simp[hx]))) (λx hx=>hsp x (by simp[hx]))) (trodAll_cons_mk (shut_int Tryz.underlying5 w2) (trodAll_cons_mk (shut_int Tryz.underlying5 w3) trodAll_mk0))))
  simp only[List.append_nil,List.nil_append,List.append_assoc] at t
  exact t) (λ_ _=>rfl) (by simp)
  hg (ok_one (by kernel_rfl) U (okWide_bool_mk Tryz.underlying4 _))⟩
theorem lifted(os:Os)(started:os.Started)(H:Type)(enc:TypeId×Value->H):
 ReturnsInHanded {} Tryz.checked os 8 .any (λw args=>(Rows.eventMakesSpec.pre enc Tryz.prog Tryz.f8 [] false w args/\laidMetH Tryz.prog Rows.eventMakesRow.laid w)/\sizedMet enc Tryz.prog Tryz.f8 (OpenSpec.ofChange Rows.eventMakesSpec) false w args) (Rows.eventMakesSpec.post enc Tryz.prog Tryz.f8 false true false false):=by
 refine returnsInHanded_of_change_and (C:=Tryz.checked) (X:=λw _=>laidMetH Tryz.prog Rows.eventMakesRow.laid w) (λ_ _ _ hh h=>h.of_heap hh) own started (by kernel_rfl) Tryz.func8
  (ChangeSpec.witness_shaped (enc:=enc) (C:=Tryz.checked) (os:=os) (X:=λw _=>laidMetH Tryz.prog Rows.eventMakesRow.laid w) false (wit os) #[.slice none 0 0,.slice none 0 0,.int .u8 0,.int .u8 0] 8 (World.laidAll_os _ _ _) (Oa os _) (by kernel_rfl) (by kernel_rfl) (by kernel_rfl) (TP os _)) ?_
 intro W base args ds gs before hval hW _ _ hL _
 exact contract H enc W base args ds gs before hval hW hL
theorem joined:joinedFacts Tryz.prog 8 Tryz.f8 Rows.eventMakesSpec Rows.eventMakesRow=true:=by
 unfold joinedFacts
 iterate 31 (refine Bool.and_eq_true_iff.2 ⟨?_,by as_aux_lemma=>kernel_rfl⟩)
 as_aux_lemma=>kernel_rfl
theorem over:Rows.eventMakesRow.holds Tryz.pinned (OpenSpec.ofChange Rows.eventMakesSpec):=
 OpenClaim.holds_of_wide 8 Tryz.f8 U U U U U U U ⟨rfl,rfl,rfl,rfl,rfl⟩ U U U U U (by as_aux_lemma=>kernel_rfl) Tryz.func8 joined
  (of_decide_eq_true (by as_aux_lemma=>kernel_rfl)) (by unfold Func.isWrapper;first|(rw[if_pos (by decide+kernel)];kernel_rfl)|(rw[if_neg (by decide+kernel)];exact⟨rfl,rfl⟩))
  (λos started H enc _=>lifted os started H enc)
theorem proved:Rows.EventMakesCardSaid:=
 Claim7.holds_tied_plain_at .later [] [.data,.data,.data,.listed,.data] true (true,"75079ff05d6b0a2dc1c6b786e9a4f32c3aad079791fb4f59bb72965eb17389d3") true
  over (λ_ h=>by cases h) (by as_aux_lemma=>kernel_rfl) (λ_ h=>by cases h) eventMakes_row_tie U ⟨rfl,rfl⟩ (by as_aux_lemma=>kernel_rfl) U
  (λf fn hf hfn=>by
    obtain rfl:f=8:=Option.some.inj ((show Tryz.prog.funcNamed "heliast/heliastlaw08.EventMakes" =some 8 by as_aux_lemma=>kernel_rfl).symm.trans hf)|>.symm
    obtain rfl:fn=Tryz.f8:=(Option.some.inj (Tryz.func8.symm.trans hfn)).symm
    exact⟨by as_aux_lemma=>kernel_rfl,λj t ht=>by
     rw[Tryz.params8] at ht
     have hm:t∈[22,22,5,5]:=by simpa using Array.mem_of_getElem? ht
     have hall:([22,22,5,5].all λu=>!Tryz.prog.wantsStandIn u)=true:=by as_aux_lemma=>kernel_rfl
     exact(show Tryz.prog.wantsStandIn t=false by simpa using List.all_eq_true.1 hall t hm)⟩)
  (by as_aux_lemma=>kernel_rfl)
end Go.Proofs.YtonpfomjoiaacaaGreatDoor.eventMakes
end
