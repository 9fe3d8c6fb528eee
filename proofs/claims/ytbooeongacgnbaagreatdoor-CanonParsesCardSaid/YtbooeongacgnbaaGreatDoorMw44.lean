/- The statement heliastlaw03.CanonParses: whatever comes in, the call returns true, and all reads as it did; the card. -/
import Derived.Test.YtbooeongacgnbaaGreatDoorMw18
import Derived.Test.YtbooeongacgnbaaGreatDoorMw43
import Derived.Test.YtbooeongacgnbaaGreatDoorCards
import Derived.Test.YtbooeongacgnbaaGreatDoorTie
set_option maxRecDepth 100000
set_option maxHeartbeats 4000000
set_option linter.unusedSectionVars false
set_option linter.unusedVariables false
set_option linter.unusedSimpArgs false
section
namespace Go.Proofs.YtbooeongacgnbaaGreatDoor.canonParses
open Go Go.ChangeAt Go.ChangeShapes Go.gW Go.RowKit Go.WideShapes
theorem walk(a0:ByteArray)(c1:List Int)(v1:Value)(b1:BR c1)(c2:List Int)(v2:Value)(b2:BR c2)(a3:Int)(w3:(Lit.int .u8 a3).wf=true)(w:World)(hL:CQ w)(r1:dL (bK ky BS) ky w (xH c1) v1)(r2:dL (bK ky BS) ky w (xH c2) v2):
 Calls Tryz.prog 3 #[.string a0,v1,v2,.int .u8 a3] w λe w'=>e=.returned (.bool true)/\Below w.heap.size w w':=by
 obtain⟨ρ,H,hh,hno,ga,gb,hG⟩:=hL
 have h3:0<=a3/\a3<=255:=by simp only[Lit.wf,Bool.and_eq_true,decide_eq_true_eq] at w3;exact w3
 refine F.UR (F3 a0 c1 c2 a3 b1 b2 h3.1 h3.2 H hG) w hh hno [.string a0,v1,v2,.int .u8 a3] ⟨rfl,λj u x hu hx=>?_⟩
 match j with
 |0=>simp at hu hx;subst hu hx;exact .v _
 |1=>simp at hu hx;subst hu hx;exact Tt hno r1
 |2=>simp at hu hx;subst hu hx;exact Tt hno r2
 |3=>simp at hu hx;subst hu hx;exact .v _
 |j+4=>simp at hu
theorem contract(H:Type)(enc:TypeId×Value->H)(W:World)(base:Nat)(args:Array Value)(ds gs:List (DataW H))(before:List MemPlace)
 (hval:∀(j:Nat) t v,Tryz.f3.params[j]? =some t->args[j]? =some v->Value.okWide Tryz.prog W .any base t v)
 (hW:DataW.Whole enc Tryz.prog Tryz.f3.params.toList Rows.canonParsesSpec.vars false W args.toList ds gs before) (hL:laidMetH Tryz.prog Rows.canonParsesRow.laid W):
 Calls Tryz.prog 3 args W λe W'=>∃v,e=.returned v/\Rows.canonParsesSpec.post enc Tryz.prog Tryz.f3 false true false false W args v W':=by
 have hg0:CQ W:=CQ.Qu hL
 have hW':=hW
 have hlt:=hW.lt
 obtain⟨p,q,ZZ,hV,rfl,hfz,hnd⟩:=hW
 have hA:DataW.TrodAll enc Tryz.prog W 0 (λ_=>true) true Tryz.f3.params.toList args.toList ds p:=ZZ
 rw[Tryz.params3] at hA hval
 obtain⟨v0,vs0,d0,ds0,p0,q0,hargs,rfl,rfl,h0,r0⟩:=trodAll_cons hA
 obtain⟨v1,vs1,d1,ds1,p1,q1,rfl,rfl,rfl,h1,r1⟩:=trodAll_cons r0
 obtain⟨v2,vs2,d2,ds2,p2,q2,rfl,rfl,rfl,h2,r2⟩:=trodAll_cons r1
 obtain⟨v3,vs3,d3,ds3,p3,q3,rfl,rfl,rfl,h3,r3⟩:=trodAll_cons r2
 obtain⟨rfl,rfl,rfl⟩:=trodAll_nil r3
 obtain rfl:args= #[v0,v1,v2,v3]:=by cases args;simp_all
 obtain⟨rfl,rfl⟩:=trodVars_none hV
 obtain⟨a0,rfl,rfl,rfl,w0⟩:=Go.ChangeMaps.open_string Tryz.underlying9 (hval 0 9 v0 rfl rfl) h0
 obtain⟨a3,rfl,rfl,rfl,w3⟩:=open_int Tryz.underlying5 (hval 3 5 v3 rfl rfl) h3
 clear ZZ
 simp only[List.append_nil,List.nil_append] at hW' hlt
 obtain⟨c1,Zu,b1⟩:∃c,dL (bK ky BS) ky W (xH c) v1/\BR c:=by
  obtain⟨fuel,hf⟩:=h1
  exact G6 Tryz.underlying22 Tryz.underlying5 (by kernel_rfl) (okWide_slice Tryz.underlying22 (hval 1 22 v1 U U)) hf
 obtain⟨c2,Zv,b2⟩:∃c,dL (bK ky BS) ky W (xH c) v2/\BR c:=by
  obtain⟨fuel,hf⟩:=h2
  exact G6 Tryz.underlying22 Tryz.underlying5 (by kernel_rfl) (okWide_slice Tryz.underlying22 (hval 2 22 v2 U U)) hf
 refine(walk a0 c1 v1 b1 c2 v2 b2 a3 w3 W hg0 Zu Zv).mono λe W' ⟨he,hg⟩=>?_
 subst he
 exact⟨_,rfl,JG (pa:=p1++p2) (pv:=[]) hW' (λ_ _ _=>(trodAll_cons_mk (shut_bool Tryz.underlying4 _) trodAll_mk0)) (λsp hsp=>by
  have t:=(trodAll_cons_mk (Go.ChangeMaps.shut_string Tryz.underlying9 w0) (trodAll_cons_mk (WideElems.Trod_stays (sp':=sp) (by kernel_rfl) (by kernel_rfl) (of_decide_eq_true (by kernel_rfl)) h1 (λx hx=>hg.same (hlt x (by simp[hx]))) (λx hx=>hsp x (by simp[hx]))) (trodAll_cons_mk (WideElems.Trod_stays (sp':=sp) (by kernel_rfl) (by kernel_rfl) (of_decide_eq_true (by kernel_rfl)) h2 (λx hx=>hg.same (hlt x (by simp[hx]))) (λx hx=>hsp x (by simp[hx]))) (trodAll_cons_mk (shut_int Tryz.underlying5 w3) trodAll_mk0))))
  simp only[List.append_nil,List.nil_append,List.append_assoc] at t
  exact t) (λ_ _=>rfl) (by simp)
  hg (ok_one (by kernel_rfl) U (okWide_bool_mk Tryz.underlying4 _))⟩
theorem lifted(os:Os)(started:os.Started)(H:Type)(enc:TypeId×Value->H):
 ReturnsInHanded {} Tryz.checked os 3 .any (λw args=>(Rows.canonParsesSpec.pre enc Tryz.prog Tryz.f3 [] false w args/\laidMetH Tryz.prog Rows.canonParsesRow.laid w)/\sizedMet enc Tryz.prog Tryz.f3 (OpenSpec.ofChange Rows.canonParsesSpec) false w args) (Rows.canonParsesSpec.post enc Tryz.prog Tryz.f3 false true false false):=by
 refine returnsInHanded_of_change_and (C:=Tryz.checked) (X:=λw _=>laidMetH Tryz.prog Rows.canonParsesRow.laid w) (λ_ _ _ hh h=>h.of_heap hh) own started (by kernel_rfl) Tryz.func3
  (ChangeSpec.witness_shaped (enc:=enc) (C:=Tryz.checked) (os:=os) (X:=λw _=>laidMetH Tryz.prog Rows.canonParsesRow.laid w) false (YV os) #[.string ⟨#[]⟩,.slice none 0 0,.slice none 0 0,.int .u8 0] 8 (World.laidAll_os _ _ _) (JH os _) (by kernel_rfl) (by kernel_rfl) (by kernel_rfl) (Oh os _)) ?_
 intro W base args ds gs before hval hW _ _ hL _
 exact contract H enc W base args ds gs before hval hW hL
theorem joined:joinedFacts Tryz.prog 3 Tryz.f3 Rows.canonParsesSpec Rows.canonParsesRow=true:=by
 unfold joinedFacts
 iterate 31 (refine Bool.and_eq_true_iff.2 ⟨?_,by as_aux_lemma=>kernel_rfl⟩)
 as_aux_lemma=>kernel_rfl
theorem over:Rows.canonParsesRow.holds Tryz.pinned (OpenSpec.ofChange Rows.canonParsesSpec):=
 OpenClaim.holds_of_wide 3 Tryz.f3 U U U U U U U ⟨rfl,rfl,rfl,rfl,rfl⟩ U U U U U (by as_aux_lemma=>kernel_rfl) Tryz.func3 joined
  (of_decide_eq_true (by as_aux_lemma=>kernel_rfl)) (by unfold Func.isWrapper;first|(rw[if_pos (by decide+kernel)];kernel_rfl)|(rw[if_neg (by decide+kernel)];exact⟨rfl,rfl⟩))
  (λos started H enc _=>lifted os started H enc)
theorem proved:Rows.CanonParsesCardSaid:=
 Claim7.holds_tied_plain_at .later [] [.data,.data,.data,.data,.sentinel,.sentinel,.pinned,.pinned] true (true,"c7a3b08fc60ee0d5c632cdeb4d018da90be442eff2f05c901ee74b2b68093f43") true
  over (λ_ h=>by cases h) (by as_aux_lemma=>kernel_rfl) (λ_ h=>by cases h) canonParses_row_tie U ⟨rfl,rfl⟩ (by as_aux_lemma=>kernel_rfl) U
  (λf fn hf hfn=>by
    obtain rfl:f=3:=Option.some.inj ((show Tryz.prog.funcNamed "heliast/heliastlaw03.CanonParses" =some 3 by as_aux_lemma=>kernel_rfl).symm.trans hf)|>.symm
    obtain rfl:fn=Tryz.f3:=(Option.some.inj (Tryz.func3.symm.trans hfn)).symm
    exact⟨by as_aux_lemma=>kernel_rfl,λj t ht=>by
     rw[Tryz.params3] at ht
     have hm:t∈[9,22,22,5]:=by simpa using Array.mem_of_getElem? ht
     have hall:([9,22,22,5].all λu=>!Tryz.prog.wantsStandIn u)=true:=by as_aux_lemma=>kernel_rfl
     exact(show Tryz.prog.wantsStandIn t=false by simpa using List.all_eq_true.1 hall t hm)⟩)
  (by as_aux_lemma=>kernel_rfl)
end Go.Proofs.YtbooeongacgnbaaGreatDoor.canonParses
end
