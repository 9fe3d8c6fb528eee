/- A part of the proof. -/
import Derived.Test.YtonpfomjoiaacaaGreatDoorMw19
import Derived.Test.YtonpfomjoiaacaaGreatDoorMw42
import Derived.Test.YtonpfomjoiaacaaGreatDoorCards
import Derived.Test.YtonpfomjoiaacaaGreatDoorTie
set_option maxRecDepth 100000
set_option maxHeartbeats 4000000
set_option linter.unusedSectionVars false
set_option linter.unusedVariables false
set_option linter.unusedSimpArgs false
section
namespace Go.Proofs.YtonpfomjoiaacaaGreatDoor.eventEdges
open Go Go.ChangeAt Go.ChangeShapes Go.iG Go.RowKit Go.WideShapes
theorem walk(a0:Int)(w0:(Lit.int .u8 a0).wf=true)(a1:Bool)(a2:Bool)(w:World)(hL:lF w):
 Calls Tryz.prog 4 #[.int .u8 a0,.bool a1,.bool a2] w λe w'=>e=.returned (.bool true)/\Below w.heap.size w w':=by
 obtain⟨ρ,H,hh,hno,hG⟩:=hL
 have h0:0<=a0/\a0<=255:=by simp only[Lit.wf,Bool.and_eq_true,decide_eq_true_eq] at w0;exact w0
 refine au.Cq (Rv a0 a1 a2 h0.1 h0.2 H hG) w hh hno [.int .u8 a0,.bool a1,.bool a2] ⟨rfl,λj u x hu hx=>?_⟩
 match j with
 |0=>simp at hu hx;subst hu hx;exact .v _
 |1=>simp at hu hx;subst hu hx;exact .v _
 |2=>simp at hu hx;subst hu hx;exact .v _
 |j+3=>simp at hu
theorem contract(H:Type)(enc:TypeId×Value->H)(W:World)(base:Nat)(args:Array Value)(ds gs:List (DataW H))(before:List MemPlace)
 (hval:∀(j:Nat) t v,Tryz.f4.params[j]? =some t->args[j]? =some v->Value.okWide Tryz.prog W .any base t v)
 (hW:DataW.Whole enc Tryz.prog Tryz.f4.params.toList Rows.eventEdgesSpec.vars false W args.toList ds gs before) (hL:laidMetH Tryz.prog Rows.eventEdgesRow.laid W):
 Calls Tryz.prog 4 args W λe W'=>∃v,e=.returned v/\Rows.eventEdgesSpec.post enc Tryz.prog Tryz.f4 false true false false W args v W':=by
 have hg0:lF W:=lF.yc hL
 have hW':=hW
 have hlt:=hW.lt
 obtain⟨p,q,OU,hV,rfl,hfz,hnd⟩:=hW
 have hA:DataW.TrodAll enc Tryz.prog W 0 (λ_=>true) true Tryz.f4.params.toList args.toList ds p:=OU
 rw[Tryz.params4] at hA hval
 obtain⟨v0,vs0,d0,ds0,p0,q0,hargs,rfl,rfl,h0,r0⟩:=trodAll_cons hA
 obtain⟨v1,vs1,d1,ds1,p1,q1,rfl,rfl,rfl,h1,r1⟩:=trodAll_cons r0
 obtain⟨v2,vs2,d2,ds2,p2,q2,rfl,rfl,rfl,h2,r2⟩:=trodAll_cons r1
 obtain⟨rfl,rfl,rfl⟩:=trodAll_nil r2
 obtain rfl:args= #[v0,v1,v2]:=by cases args;simp_all
 obtain⟨rfl,rfl⟩:=trodVars_none hV
 obtain⟨a0,rfl,rfl,rfl,w0⟩:=open_int Tryz.underlying5 (hval 0 5 v0 rfl rfl) h0
 obtain⟨a1,rfl,rfl,rfl⟩:=open_bool Tryz.underlying4 (hval 1 4 v1 rfl rfl) h1
 obtain⟨a2,rfl,rfl,rfl⟩:=open_bool Tryz.underlying4 (hval 2 4 v2 rfl rfl) h2
 clear OU
 simp only[List.append_nil,List.nil_append] at hW' hlt
 refine(walk a0 w0 a1 a2 W hg0).mono λe W' ⟨he,hg⟩=>?_
 subst he
 exact⟨_,rfl,nM (pa:=[]) (pv:=[]) hW' (λ_ _ _=>(trodAll_cons_mk (shut_bool Tryz.underlying4 _) trodAll_mk0)) (λsp hsp=>by
  exact(trodAll_cons_mk (shut_int Tryz.underlying5 w0) (trodAll_cons_mk (shut_bool Tryz.underlying4 _) (trodAll_cons_mk (shut_bool Tryz.underlying4 _) trodAll_mk0)))) (λ_ _=>rfl) (by simp)
  hg (ok_one (by kernel_rfl) U (okWide_bool_mk Tryz.underlying4 _))⟩
theorem lifted(os:Os)(started:os.Started)(H:Type)(enc:TypeId×Value->H):
 ReturnsInHanded {} Tryz.checked os 4 .any (λw args=>(Rows.eventEdgesSpec.pre enc Tryz.prog Tryz.f4 [] false w args/\laidMetH Tryz.prog Rows.eventEdgesRow.laid w)/\sizedMet enc Tryz.prog Tryz.f4 (OpenSpec.ofChange Rows.eventEdgesSpec) false w args) (Rows.eventEdgesSpec.post enc Tryz.prog Tryz.f4 false true false false):=by
 refine returnsInHanded_of_change_and (C:=Tryz.checked) (X:=λw _=>laidMetH Tryz.prog Rows.eventEdgesRow.laid w) (λ_ _ _ hh h=>h.of_heap hh) own started (by kernel_rfl) Tryz.func4
  (ChangeSpec.witness_shaped (enc:=enc) (C:=Tryz.checked) (os:=os) (X:=λw _=>laidMetH Tryz.prog Rows.eventEdgesRow.laid w) false (wit os) #[.int .u8 0,.bool false,.bool false] 8 (World.laidAll_os _ _ _) (nN os _) (by kernel_rfl) (by kernel_rfl) (by kernel_rfl) (tu os _)) ?_
 intro W base args ds gs before hval hW _ _ hL _
 exact contract H enc W base args ds gs before hval hW hL
theorem joined:joinedFacts Tryz.prog 4 Tryz.f4 Rows.eventEdgesSpec Rows.eventEdgesRow=true:=by
 unfold joinedFacts
 iterate 31 (refine Bool.and_eq_true_iff.2 ⟨?_,by as_aux_lemma=>kernel_rfl⟩)
 as_aux_lemma=>kernel_rfl
theorem over:Rows.eventEdgesRow.holds Tryz.pinned (OpenSpec.ofChange Rows.eventEdgesSpec):=
 OpenClaim.holds_of_wide 4 Tryz.f4 U U U U U U U ⟨rfl,rfl,rfl,rfl,rfl⟩ U U U U U (by as_aux_lemma=>kernel_rfl) Tryz.func4 joined
  (of_decide_eq_true (by as_aux_lemma=>kernel_rfl)) (by unfold Func.isWrapper;first|(rw[if_pos (by decide+kernel)];kernel_rfl)|(rw[if_neg (by decide+kernel)];exact⟨rfl,rfl⟩))
  (λos started H enc _=>lifted os started H enc)
theorem proved:Rows.EventEdgesCardSaid:=
 Claim7.holds_tied_plain_at .later [] [.data,.data,.data,.listed,.data] true (true,"75079ff05d6b0a2dc1c6b786e9a4f32c3aad079791fb4f59bb72965eb17389d3") true
  over (λ_ h=>by cases h) (by as_aux_lemma=>kernel_rfl) (λ_ h=>by cases h) eventEdges_row_tie U ⟨rfl,rfl⟩ (by as_aux_lemma=>kernel_rfl) U
  (λf fn hf hfn=>by
    obtain rfl:f=4:=Option.some.inj ((show Tryz.prog.funcNamed "heliast/heliastlaw08.EventEdges" =some 4 by as_aux_lemma=>kernel_rfl).symm.trans hf)|>.symm
    obtain rfl:fn=Tryz.f4:=(Option.some.inj (Tryz.func4.symm.trans hfn)).symm
    exact⟨by as_aux_lemma=>kernel_rfl,λj t ht=>by
     rw[Tryz.params4] at ht
     have hm:t∈[5,4,4]:=by simpa using Array.mem_of_getElem? ht
     have hall:([5,4,4].all λu=>!Tryz.prog.wantsStandIn u)=true:=by as_aux_lemma=>kernel_rfl
     exact(show Tryz.prog.wantsStandIn t=false by simpa using List.all_eq_true.1 hall t hm)⟩)
  (by as_aux_lemma=>kernel_rfl)
end Go.Proofs.YtonpfomjoiaacaaGreatDoor.eventEdges
end
