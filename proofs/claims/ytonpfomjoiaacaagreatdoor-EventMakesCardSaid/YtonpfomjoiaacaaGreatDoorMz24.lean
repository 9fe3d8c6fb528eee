/- A part of the proof. -/
import Derived.Test.YtonpfomjoiaacaaGreatDoorMz23
set_option maxRecDepth 100000
set_option maxHeartbeats 4000000
set_option linter.unusedSectionVars false
set_option linter.unusedVariables false
set_option linter.unusedSimpArgs false
section
namespace Go.Proofs.YtonpfomjoiaacaaGreatDoor
open Go Go.fT Go.RowKit
inductive Tx:V->Prop
 |mk (k n:Int) (t:ByteArray) (ks:List ByteArray) (vs:List V) (h1:t.size<=4000000) (h2:∀s∈ks,s.size<=4000000) (h:∀x∈vs,Tx x):Tx (.mk k n t ks vs)
theorem Tx.tx{k n:Int}{t:ByteArray}{ks:List ByteArray}{vs:List V}(h:Tx (.mk k n t ks vs)):t.size<=4000000:=by cases h;assumption
theorem Tx.keys{k n:Int}{t:ByteArray}{ks:List ByteArray}{vs:List V}(h:Tx (.mk k n t ks vs)):∀s∈ks,s.size<=4000000:=by cases h;assumption
theorem Tx.vals{k n:Int}{t:ByteArray}{ks:List ByteArray}{vs:List V}(h:Tx (.mk k n t ks vs)):∀x∈vs,Tx x:=by cases h;assumption
def qD(k:Int)(t:ByteArray):Bool:=!(!(t.toList==(⟨#[]⟩:ByteArray).toList)&&(!(k==3)||decide (0<=PX t)))
section
variable {k n:Int} {t:ByteArray} {ks:List ByteArray} {vs:List V}
theorem kI:dG (.mk k n t ks vs)=((decide (0<=k)&&decide (k<=5)&&yY (.mk k n t ks vs)&&rZ (.mk k n t ks vs))&&qD k t&&!(decide (k<4)&&decide ((0:Int)<vs.length))&&mI vs):=by rw[dG];rfl
theorem xY:yY (.mk k n t ks vs)=if k=1 then(n==0||n==1) else if k=2 then(decide (-9007199254740991<=n)&&decide (n<=9007199254740991)) else(n==0):=rfl
theorem NW(h:(k=1->n=0\/n=1)/\(k=2-> -9007199254740991<=n/\n<=9007199254740991)/\(k≠1->k≠2->n=0)):yY (.mk k n t ks vs)=true:=by
 rw[xY]
 split
 ·rename_i h1;rcases h.1 h1 with h2|h2<;>simp[h2]
 ·split
  ·rename_i h1 h2;have:=h.2.1 h2;simp;omega
  ·rename_i h1 h2;simp[h.2.2 h1 h2]
theorem NY(h:(k=1/\n≠0/\n≠1)\/(k=2/\(n< -9007199254740991\/9007199254740991<n))\/(k≠1/\k≠2/\n≠0)):yY (.mk k n t ks vs)=false:=by
 rw[xY]
 split
 ·rename_i h1;simp;omega
 ·split
  ·rename_i h1 h2;simp;omega
  ·rename_i h1 h2;simp;omega
theorem oz(h:k<0\/5<k\/(k=1/\n≠0/\n≠1)\/(k=2/\(n< -9007199254740991\/9007199254740991<n))\/(k≠1/\k≠2/\n≠0)):dG (.mk k n t ks vs)=false:=by
 rw[kI]
 rcases h with h|h|h
 ·rw[decide_eq_false (by omega:¬0<=k)];simp
 ·rw[decide_eq_false (by omega:¬k<=5)];simp
 ·rw[NY h];simp
theorem Gx(h:qD k t=false):dG (.mk k n t ks vs)=false:=by rw[kI,h];simp
theorem Av(h:rZ (.mk k n t ks vs)=false):dG (.mk k n t ks vs)=false:=by rw[kI,h];simp
theorem Q5(h1:k<4)(h2:0<vs.length):dG (.mk k n t ks vs)=false:=by rw[kI,decide_eq_true h1,decide_eq_true (by omega:(0:Int)<vs.length)];simp
theorem Gy(h:mI vs=false):dG (.mk k n t ks vs)=false:=by rw[kI,h];simp
theorem Gz(h1:0<=k)(h2:k<=5)(h3:(k=1->n=0\/n=1)/\(k=2-> -9007199254740991<=n/\n<=9007199254740991)/\(k≠1->k≠2->n=0))(h4:qD k t=true)(h5:rZ (.mk k n t ks vs)=true)(h6:¬(k<4/\0<vs.length))(h7:mI vs=true):dG (.mk k n t ks vs)=true:=by
 rw[kI,NW h3,h4,h5,h7,decide_eq_true h1,decide_eq_true h2]
 by_cases h:k<4
 ·rw[decide_eq_false (by omega:¬(0:Int)<vs.length)];simp
 ·rw[decide_eq_false h];simp
theorem sQ(h:k=5):rZ (.mk k n t ks vs)=(nC ks&&((ks.length:Int)==(vs.length:Int))):=by unfold rZ nC;simp[V.k,V.ks,V.vs,h]
theorem Bz(h:k≠5):rZ (.mk k n t ks vs)=((ks.length:Int)==0):=by unfold rZ;simp[V.k,V.ks,h]
end
theorem DJ{vs:List V}{j:Nat}(h:j<vs.length)(hr:dG vs[j]=false):mI vs=false:=by
 rw[xE]
 have:vs.any (λx=>!dG x)=true:=by rw[List.any_eq_true];exact⟨_,List.getElem_mem h,by simp[hr]⟩
 rw[this];rfl
theorem BA{vs:List V}(h:∀(j:Nat) (h:j<vs.length),dG vs[j]=true):mI vs=true:=by
 rw[xE]
 have:vs.any (λx=>!dG x)=false:=by
  rw[List.any_eq_false]
  intro x hx
  obtain⟨j,hj,rfl⟩:=List.getElem_of_mem hx
  simp[h j hj]
 rw[this];rfl
theorem BB(x:V)(hx:Fits x):∀(htx:Tx x) (H:Hp),au Tryz.prog 118 [.agg (aD x)] H (bz H (.v (.bool (dG x)))):=by
 induction hx with
 |mk k n t ks vs h1 h2 h ih=>
 intro htx H
 have hvl:=aP vs
 have hkl:(ks.map encS).length=ks.length:=List.length_map ..
 refine aF (n:=118) (H0:=H) (I:=[]) Tryz.func118 (by kernel_rfl) U (by rw[Tryz.ntmps118];rfl) .nil<|?_
 refine Q.rg<|S.dd<|D.box U U U λp1=>Q.as U<|Q.nt<|?_
 refine S.cut [(1,.ptr p1 0)] [(p1,.box 26 (aD (.mk k n t ks vs)))] (0<=k/\k<=5/\(k=1->n=0\/n=1)/\(k=2-> -9007199254740991<=n/\n<=9007199254740991)/\(k≠1->k≠2->n=0)) ?_ (λhJ1=>?_)
 refine Q.rg<|Q.fa bP U<|Q.lc 0 eQ U U U<|Q.bi U U U<|Q.mv U<|?_
 refine S.tD 7 (λTH=>?_) (λTH=>?_)
 refine Q.of<|Q.of<|Q.of<|Q.pk U U<|Q.mv U<|Q.of<|Q.of<|Q.of<|Q.of<|Q.ou<|Q.ou<|Q.ou<|Q.of<|Q.of<|Q.ou<|Q.ou<|Q.ou<|Q.of<|Q.pk U U<|Q.mv U<|Q.of<|Q.of<|Q.of<|Q.of<|Q.ou<|Q.ou<|Q.ou<|Q.of<|Q.of<|Q.ou<|Q.ou<|Q.ou<|Q.of<|Q.pk U U<|Q.mv U<|Q.of<|Q.of<|Q.of<|Q.pk U U<|Q.mv U<|?_
 refine Q.of<|Q.of<|Q.of<|Q.pk U U<|Q.nt<|S.cT U U<|Q.rg<|Q.as U<|Q.nt<|UW.ret<|UQ.ax<|S.bK (λ_=>ak U U)<|?_
 focus (rw[oz (by omega)];done)
 refine Q.on (Z.fa bP U)<|Q.on (Z.di 0 eQ U U U)<|Q.on (Z.bi U U U)<|Q.pk U U<|Q.mv U<|?_
 refine S.tD 12 (λAr=>?_) (λAr=>?_)
 refine Q.of<|Q.of<|Q.of<|Q.of<|Q.ou<|Q.ou<|Q.ou<|Q.of<|Q.of<|Q.ou<|Q.ou<|Q.ou<|Q.of<|Q.pk U U<|Q.mv U<|Q.of<|Q.of<|Q.of<|Q.of<|Q.ou<|Q.ou<|Q.ou<|Q.of<|Q.of<|Q.ou<|Q.ou<|Q.ou<|Q.of<|Q.pk U U<|Q.mv U<|Q.of<|Q.of<|Q.of<|Q.pk U U<|Q.mv U<|Q.of<|Q.of<|Q.of<|Q.pk U U<|Q.nt<|?_
 refine S.cT U U<|Q.rg<|Q.as U<|Q.nt<|UW.ret<|UQ.ax<|S.bK (λ_=>ak U U)<|?_
 focus (rw[oz (by omega)];done)
 refine Q.on (Z.fa iA U)<|Q.on (Z.di 0 qF U U U)<|Q.on (Z.bi U U U)<|Q.on (Z.mv U)<|?_
 refine S.tO 16 (λhc16=>?_) (λhc16=>?_)
 refine Q.on (Z.fa bP U)<|Q.on (Z.di 0 eQ U U U)<|Q.on (Z.bi U U U)<|Q.on (Z.pick U U)<|Q.on (Z.mv U)<|?_
 refine S.tO 21 (λhc21=>?_) (λhc21=>?_)
 refine Q.on (Z.fa bP U)<|Q.on (Z.di 0 eQ U U U)<|Q.on (Z.bi U U U)<|Q.on (Z.pick U U)<|Q.pk U U<|Q.mv U<|?_
 refine S.tO 27 (λhc27=>?_) (λhc27=>?_)
 refine Q.of<|Q.of<|Q.of<|Q.of<|Q.ou<|Q.ou<|Q.ou<|Q.of<|Q.of<|Q.ou<|Q.ou<|Q.ou<|Q.of<|Q.pk U U<|Q.mv U<|Q.of<|Q.of<|Q.of<|Q.pk U U<|Q.mv U<|Q.of<|Q.of<|Q.of<|Q.pk U U<|Q.nt<|S.cT U U<|Q.rg<|Q.as U<|Q.nt<|UW.ret<|UQ.ax<|S.bK (λ_=>ak U U)<|?_
 focus (rw[oz (by omega)];done)
 refine Q.on (Z.fa bP U)<|Q.on (Z.di 0 eQ U U U)<|Q.on (Z.bi U U U)<|Q.on (Z.mv U)<|S.tF 31 (iy (by omega))<|Q.of<|Q.of<|Q.of<|Q.on (Z.pick U U)<|Q.on (Z.mv U)<|Q.of<|Q.of<|Q.of<|Q.on (Z.pick U U)<|Q.pk U U<|Q.mv U<|Q.on (Z.fa iA U)<|Q.on (Z.di 0 qF U U U)<|Q.on (Z.bi U U U)<|Q.pk U U<|Q.mv U<|?_
 refine S.tD 47 (λhc47=>?_) (λhc47=>?_)
 refine Q.of<|Q.of<|Q.of<|Q.pk U U<|Q.nt<|S.cT U U<|Q.rg<|Q.as U<|Q.nt<|UW.ret<|UQ.ax<|S.bK (λ_=>ak U U)<|?_
 focus (rw[oz (by omega)];done)
 refine Q.on (Z.fa iA U)<|Q.on (Z.di 0 qF U U U)<|Q.on (Z.bi U U U)<|Q.pk U U<|Q.nt<|?_
 refine S.cD U (λaaG=>?_) (λaaG=>?_)
 refine Q.rg<|Q.as U<|Q.nt<|UW.ret<|UQ.ax<|S.bK (λ_=>ak U U)<|?_
 focus (rw[oz (by omega)];done)
 refine UW.skip<|?_
 refine S.fin ⟨rfl,trivial⟩ (.refl _) (by omega)
 refine Q.of<|Q.of<|Q.of<|Q.on (Z.pick U U)<|Q.pk U U<|Q.mv U<|Q.on (Z.fa bP U)<|Q.on (Z.di 0 eQ U U U)<|Q.on (Z.bi U U U)<|Q.on (Z.mv U)<|S.tT 31 (kQ (by omega))<|Q.on (Z.fa iA U)<|Q.on (Z.di 0 qF U U U)<|Q.on (Z.bi U U U)<|Q.on (Z.pick U U)<|Q.on (Z.mv U)<|S.tT 36 (uh (by omega))<|Q.on (Z.fa iA U)<|Q.on (Z.di 0 qF U U U)<|Q.on (Z.bi U U U)<|Q.on (Z.pick U U)<|Q.pk U U<|Q.mv U<|?_
 refine S.tO 42 (λhc42=>?_) (λhc42=>?_)
 refine Q.of<|Q.of<|Q.of<|Q.pk U U<|Q.mv U<|Q.of<|Q.of<|Q.of<|Q.pk U U<|Q.nt<|S.cT U U<|Q.rg<|Q.as U<|Q.nt<|UW.ret<|UQ.ax<|S.bK (λ_=>ak U U)<|?_
 focus (rw[oz (by omega)];done)
 refine Q.on (Z.fa iA U)<|Q.on (Z.di 0 qF U U U)<|Q.on (Z.bi U U U)<|Q.pk U U<|Q.mv U<|?_
 refine S.tD 47 (λhc47=>?_) (λhc47=>?_)
 omega
 refine Q.on (Z.fa iA U)<|Q.on (Z.di 0 qF U U U)<|Q.on (Z.bi U U U)<|Q.pk U U<|Q.nt<|S.cF U (decide_eq_false (by omega))<|UW.skip<|?_
 refine S.fin ⟨rfl,trivial⟩ (.refl _) (by omega)
 refine Q.of<|Q.of<|Q.of<|Q.on (Z.pick U U)<|Q.on (Z.mv U)<|Q.of<|Q.of<|Q.of<|Q.on (Z.pick U U)<|Q.pk U U<|Q.mv U<|Q.on (Z.fa bP U)<|Q.on (Z.di 0 eQ U U U)<|Q.on (Z.bi U U U)<|Q.on (Z.mv U)<|?_
 refine S.tE 31 (λhc31=>?_) (λhc31=>?_)
 refine Q.on (Z.fa iA U)<|Q.on (Z.di 0 qF U U U)<|Q.on (Z.bi U U U)<|Q.on (Z.pick U U)<|Q.on (Z.mv U)<|?_
 refine S.tO 36 (λhc36=>?_) (λhc36=>?_)
 omega
 refine Q.of<|Q.of<|Q.of<|Q.on (Z.pick U U)<|Q.pk U U<|Q.mv U<|Q.on (Z.fa iA U)<|Q.on (Z.di 0 qF U U U)<|Q.on (Z.bi U U U)<|Q.pk U U<|Q.mv U<|?_
 refine S.tD 47 (λhc47=>?_) (λhc47=>?_)
 omega
 refine Q.on (Z.fa iA U)<|Q.on (Z.di 0 qF U U U)<|Q.on (Z.bi U U U)<|Q.pk U U<|Q.nt<|S.cF U (decide_eq_false (by omega))<|UW.skip<|?_
 refine S.fin ⟨rfl,trivial⟩ (.refl _) (by omega)
 refine Q.of<|Q.of<|Q.of<|Q.on (Z.pick U U)<|Q.on (Z.mv U)<|Q.of<|Q.of<|Q.of<|Q.on (Z.pick U U)<|Q.pk U U<|Q.mv U<|Q.on (Z.fa iA U)<|Q.on (Z.di 0 qF U U U)<|Q.on (Z.bi U U U)<|Q.pk U U<|Q.mv U<|?_
 refine S.tD 47 (λhc47=>?_) (λhc47=>?_)
 omega
 refine Q.on (Z.fa iA U)<|Q.on (Z.di 0 qF U U U)<|Q.on (Z.bi U U U)<|Q.pk U U<|Q.nt<|S.cF U (decide_eq_false (by omega))<|UW.skip<|?_
 refine S.fin ⟨rfl,trivial⟩ (.refl _) (by omega)
 refine S.cut [(1,.ptr p1 0)] [(p1,.box 26 (aD (.mk k n t ks vs)))] (qD k t=true) ?_ (λhJ2=>?_)
 refine Q.rg<|Q.fa jZ U<|Q.lc 0 ed U U U<|S.qu (Z.bs U U U)<|Q.mv U<|?_
 refine S.tO 55 (λhc55=>?_) (λhc55=>?_)
 refine Q.on (Z.fa bP U)<|Q.on (Z.di 0 eQ U U U)<|Q.on (Z.bi U U U)<|Q.on (Z.mv U)<|?_
 refine S.tO 59 (λaaH=>?_) (λaaH=>?_)
 refine Q.of<|Q.of<|Q.of<|Q.of<|Q.on (Z.pick U U)<|Q.pk U U<|Q.nt<|S.cT U U<|Q.rg<|Q.as U<|Q.nt<|UW.ret<|UQ.ax<|S.bK (λ_=>ak U U)<|?_
 focus (rw[Gx (by unfold qD;simp_all)];done)
 refine Q.on (Z.fa jZ U)<|Q.on (Z.di 0 ed U U U)<|Q.on (Z.call U U (λ_=>jk _ htx.tx _))<|Q.on (Z.bi U U U)<|Q.on (Z.pick U U)<|Q.pk U U<|Q.nt<|?_
 refine S.cD U (λNZ=>?_) (λNZ=>?_)
 refine Q.rg<|Q.as U<|Q.nt<|UW.ret<|UQ.ax<|S.bK (λ_=>ak U U)<|?_
 focus (rw[Gx (by unfold qD;simp_all)];done)
 refine UW.skip<|?_
 refine S.fin ⟨rfl,trivial⟩ (.refl _) (by unfold qD;simp_all;done)
 refine Q.of<|Q.of<|Q.of<|Q.of<|Q.ou<|Q.ou<|Q.ou<|Q.ou<|Q.of<|Q.pk U U<|Q.nt<|S.cF U U<|UW.skip<|?_
 refine S.fin ⟨rfl,trivial⟩ (.refl _) (by unfold qD;simp_all;done)
 refine S.cut [(1,.ptr p1 0)] [(p1,.box 26 (aD (.mk k n t ks vs)))] (rZ (.mk k n t ks vs)=true) ?_ (λhJ3=>?_)
 refine Q.rg<|Q.fa bP U<|Q.lc 0 eQ U U U<|Q.bi U U U<|Q.mv U<|?_
 refine S.tO 69 (λhc69=>?_) (λhc69=>?_)
 refine Q.on (Z.fa dw U)<|Q.on (Z.di 0 dD U U U)<|Q.on (Z.fG aY U)<|Q.on (Z.bi U U U)<|Q.pk U U<|Q.mv U<|?_
 refine S.tD 75 (λaaI=>?_) (λaaI=>?_)
 refine Q.of<|Q.of<|Q.of<|Q.of<|Q.ou<|Q.ou<|Q.ou<|Q.ou<|Q.ou<|Q.ou<|Q.ou<|Q.ou<|Q.ou<|Q.ou<|Q.ou<|Q.ou<|Q.ou<|Q.of<|Q.pk U U<|Q.nt<|S.cT U U<|Q.rg<|Q.as U<|Q.nt<|UW.ret<|UQ.ax<|S.bK (λ_=>ak U U)<|?_
 focus (rw[Av (by rw[Bz (by omega),iy (by omega)])];done)
 refine Q.on (Z.fa bP U)<|Q.on (Z.di 0 eQ U U U)<|Q.on (Z.bi U U U)<|Q.on (Z.mv U)<|S.tF 79 (iy (by omega))<|Q.of<|Q.of<|Q.of<|Q.of<|Q.of<|Q.of<|Q.of<|Q.of<|Q.ou<|Q.ou<|Q.ou<|Q.ou<|Q.of<|Q.on (Z.pick U U)<|Q.pk U U<|Q.nt<|S.cF U U<|UW.skip<|?_
 refine S.fin ⟨rfl,trivial⟩ (.refl _) (by rw[Bz (by omega),kQ (by omega)])
 refine Q.of<|Q.of<|Q.of<|Q.of<|Q.pk U U<|Q.mv U<|Q.on (Z.fa bP U)<|Q.on (Z.di 0 eQ U U U)<|Q.on (Z.bi U U U)<|Q.on (Z.mv U)<|S.tT 79 (kQ (by omega))<|Q.on (Z.fa dw U)<|Q.on (Z.di 0 dD U U U)<|Q.on (Z.fG aY U)<|Q.on (Z.fa bO U)<|Q.on (Z.di 0 dF U U U)<|Q.on (Z.fG bM U)<|Q.on (Z.bi U U U)<|Q.on (Z.mv U)<|?_
 refine S.tO 87 (λhc87=>?_) (λhc87=>?_)
 refine Q.of<|Q.of<|Q.of<|Q.of<|Q.on (Z.pick U U)<|Q.on (Z.pick U U)<|Q.pk U U<|Q.nt<|S.cT U U<|Q.rg<|Q.as U<|Q.nt<|UW.ret<|UQ.ax<|S.bK (λ_=>ak U U)<|?_
 focus (rw[Av (by rw[sQ (by omega)];simp_all)];done)
 refine Q.on (Z.fa dw U)<|Q.on (Z.di 0 dD U U U)<|Q.on (Z.call U U (λ_=>NV _ h1 htx.keys _))<|Q.on (Z.not U)<|Q.on (Z.pick U U)<|Q.on (Z.pick U U)<|Q.pk U U<|Q.nt<|?_
 refine S.cB U (λhc94=>?_) (λhc94=>?_)
 refine Q.rg<|Q.as U<|Q.nt<|UW.ret<|UQ.ax<|S.bK (λ_=>ak U U)<|?_
 focus (rw[Av (by rw[sQ (by omega)];simp_all)];done)
 refine UW.skip<|?_
 refine S.fin ⟨rfl,trivial⟩ (.refl _) (by rw[sQ (by omega)];simp_all;done)
 refine S.cut [(1,.ptr p1 0)] [(p1,.box 26 (aD (.mk k n t ks vs)))] (¬(k<4/\0<vs.length)) ?_ (λhJ4=>?_)
 refine Q.rg<|Q.fa bP U<|Q.lc 0 eQ U U U<|Q.bi U U U<|Q.mv U<|?_
 refine S.tD 98 (λhc98=>?_) (λhc98=>?_)
 refine Q.on (Z.fa bO U)<|Q.on (Z.di 0 dF U U U)<|Q.on (Z.fG bM U)<|Q.on (Z.bi U U U)<|Q.pk U U<|Q.nt<|?_
 refine S.cD U (λhc103=>?_) (λhc103=>?_)
 refine Q.rg<|Q.as U<|Q.nt<|UW.ret<|UQ.ax<|S.bK (λ_=>ak U U)<|?_
 focus (rw[Q5 (by omega) (by omega)];done)
 refine UW.skip<|?_
 refine S.fin ⟨rfl,trivial⟩ (.refl _) (by omega)
 refine Q.of<|Q.of<|Q.of<|Q.of<|Q.pk U U<|Q.nt<|S.cF U U<|UW.skip<|?_
 refine S.fin ⟨rfl,trivial⟩ (.refl _) (by omega)
 refine S.sq<|Q.rg<|Q.as U<|Q.nt<|UW.block<|S.loop (λj:Nat=>[(3,.v (.int .i64 (j:Int))),(1,.ptr p1 0)]) (λ_=>[(p1,.box 26 (aD (.mk k n t ks vs)))]) (λj=>j<=vs.length/\∀(i:Nat) (h:i<vs.length),i<j->dG vs[i]=true) (λj=>vs.length-j) 0 ⟨Nat.zero_le _,λi _ h=>absurd h (by omega)⟩ ⟨rfl,rfl,trivial⟩ (.refl _)<|?_
 rintro j ⟨hj,hjj⟩
 by_cases hlt:j<vs.length
 ·have hgl:=fK vs j hlt
  have hrec:=λH=>ih _ (List.getElem_mem hlt) (htx.vals _ (List.getElem_mem hlt)) H
  cases hR:dG vs[j] with
  |true=>
   refine S.sq<|Q.rg<|Q.mv U<|Q.fa bO U<|Q.lc 0 dF U U U<|S.qu (Z.fG bM U)<|Q.bi U U U<|Q.nt<|S.cT U (decide_eq_true (by omega))<|UW.skip<|UQ.then<|S.sq<|UW.block<|Q.rg<|Q.fa bO U<|Q.lc 0 dF U U U<|Q.mv U<|S.qu (Z.ia bM U U (by omega) (by assumption) (by exact Y _))<|?_
   refine S.qu (Z.Gm av U (Y _))<|S.qu (Z.eq (Z.call U U hrec) (by rw[hR]))<|?_
   refine S.qu (Z.not U)<|Q.nt<|S.cF U U<|UW.skip<|UQ.aB<|UQ.then<|S.rg<|Q.mv U<|S.qu (Z.add (r:=((j+1:Nat):Int)) U U (IntWalk.i64_in _ (by omega)))<|Q.as U<|US.nil<|?_
   refine S.back _ ⟨rfl,rfl,trivial⟩ (.refl _) ?_ (by omega)
   refine⟨by omega,λi h3 h4=>?_⟩
   by_cases hij:i=j
   ·subst hij;exact hR
   ·exact hjj i h3 (by omega)
  |false=>
   refine S.sq<|Q.rg<|Q.mv U<|Q.fa bO U<|Q.lc 0 dF U U U<|S.qu (Z.fG bM U)<|Q.bi U U U<|Q.nt<|S.cT U (decide_eq_true (by omega))<|UW.skip<|UQ.then<|S.sq<|UW.block<|Q.rg<|Q.fa bO U<|Q.lc 0 dF U U U<|Q.mv U<|S.qu (Z.ia bM U U (by omega) (by assumption) (by exact Y _))<|?_
   refine S.qu (Z.Gm av U (Y _))<|S.qu (Z.eq (Z.call U U hrec) (by rw[hR]))<|?_
   refine S.qu (Z.not U)<|Q.nt<|S.cT U U<|Q.rg<|Q.as U<|Q.nt<|UW.ret<|UQ.aH<|UQ.ax<|UQ.ax<|UQ.aH<|UQ.ax<|S.bK (λ_=>ak U U)<|?_
   focus (rw[Gy (DJ hlt hR)];done)
 ·refine S.sq<|Q.rg<|Q.mv U<|Q.fa bO U<|Q.lc 0 dF U U U<|S.qu (Z.fG bM U)<|Q.bi U U U<|Q.nt<|S.cF U (decide_eq_false (by omega))<|UW.exit<|UQ.pass<|UQ.pass<|UQ.here<|UQ.then<|Q.rg<|Q.as U<|Q.nt<|UW.ret<|S.bK (λ_=>ak U U)<|?_
  focus (rw[Gz hJ1.1 hJ1.2.1 hJ1.2.2 hJ2 hJ3 hJ4 (BA λi hi=>hjj i hi (by omega))];done)
theorem Zx{k n:Int}{t:ByteArray}{ks:List ByteArray}{vs:List V}{key:ByteArray}(hk:k=5){j:Nat}(hj:j<ks.length)(h:ks[j].toList=key.toList)(hb:∀i (h:i<ks.length),i<j->¬ks[i].toList=key.toList):pl (.mk k n t ks vs) key=if j<vs.length then some j else none:=by
 unfold pl
 simp only[V.k,V.ks,V.vs,hk,if_true]
 rw[Ao hj (by simp[h]) (λi h1 h2=>by simpa using λh3=>hb i h1 h2 h3.symm)]
 rfl
theorem VW{k n:Int}{t:ByteArray}{ks:List ByteArray}{vs:List V}{key:ByteArray}(hb:∀i (h:i<ks.length),¬ks[i].toList=key.toList):pl (.mk k n t ks vs) key=none:=by
 unfold pl
 split
 ·simp only[V.ks]
  rw[Bt (λi h1=>by simpa using λh3=>hb i h1 h3.symm)]
 ·rfl
theorem VX{k n:Int}{t:ByteArray}{ks:List ByteArray}{vs:List V}{key:ByteArray}(hk:¬k=5):pl (.mk k n t ks vs) key=none:=by
 unfold pl
 rw[if_neg (by simpa[V.k] using hk)]
theorem BC(x:V)(key:ByteArray)(hx:Fits x)(H:Hp):au Tryz.prog 68 [.agg (aD x),.v (.string key)] H (bz H (.v (.int .i64 (oi (pl x key))))):=by
 have TI:=hx.VE
 obtain⟨k,n,t,ks,vs⟩:=x
 simp only[V.ks] at TI
 have wI:(ks.map encS).length=ks.length:=List.length_map ..
 have hvl:=aP vs
 refine aF (n:=29) (H0:=H) (I:=[]) Tryz.func68 (by kernel_rfl) U (by rw[Tryz.ntmps68];rfl) .nil<|?_
 refine Q.rg<|S.dd<|D.box U U U λp2=>Q.as U<|Q.nt<|S.sq<|Q.rg<|Q.fa bP U<|Q.lc 0 eQ U U U<|Q.bi U U U<|Q.nt<|?_
 refine S.cO U (λhc8=>?_) (λhc8=>?_)
 refine Q.rg<|Q.as U<|Q.nt<|UW.ret<|UQ.ax<|S.bK (λ_=>ak U U)<|?_
 focus (rw[VX (by assumption)];rfl;done)
 refine UW.skip<|UQ.then<|S.sq<|Q.rg<|Q.as U<|Q.nt<|UW.block<|S.loop (λj:Nat=>[(5,.v (.int .i64 (j:Int))),(1,.v (.string key)),(2,.ptr p2 0)]) (λ_=>[(p2,.box 26 (aD (.mk k n t ks vs)))]) (λj=>j<=ks.length/\∀i (h:i<ks.length),i<j->¬ks[i].toList=key.toList) (λj=>ks.length-j) 0 ⟨Nat.zero_le _,λi _ h=>absurd h (by omega)⟩ ⟨rfl,rfl,rfl,trivial⟩ (.refl _)<|?_
 rintro j ⟨hj,hjj⟩
 by_cases hlt:j<ks.length
 ·have hgl:=eD ks j hlt
  refine S.sq<|Q.rg<|Q.mv U<|Q.fa dw U<|Q.lc 0 dD U U U<|S.qu (Z.fG aY U)<|Q.bi U U U<|Q.nt<|S.cT U (decide_eq_true (by omega))<|UW.skip<|UQ.then<|S.sq<|UW.block<|Q.rg<|Q.fa dw U<|Q.lc 0 dD U U U<|Q.mv U<|S.qu (Z.ia aY U U (by omega) (by assumption) (by rfl))<|?_
  refine S.qu (Z.fE ed U)<|Q.mv U<|S.qu (Z.bs U U U)<|Q.nt<|?_
  refine S.cE U (λhc22=>?_) (λhc22=>?_)
  refine S.sq<|Q.rg<|Q.mv U<|Q.fa bO U<|Q.lc 0 dF U U U<|S.qu (Z.fG bM U)<|Q.bi U U U<|Q.nt<|?_
  refine S.cD U (λhc27=>?_) (λhc27=>?_)
  refine Q.rg<|Q.as U<|Q.nt<|UW.ret<|UQ.ax<|UQ.aH<|UQ.ax<|UQ.ax<|UQ.aH<|UQ.ax<|S.bK (λ_=>ak U U)<|?_
  focus (rw[Zx (by omega) hlt hc22 hjj,if_neg (by omega)];rfl;done)
  refine UW.skip<|UQ.then<|Q.rg<|Q.mv U<|Q.as U<|Q.nt<|UW.ret<|UQ.aH<|UQ.ax<|UQ.ax<|UQ.aH<|UQ.ax<|S.bK (λ_=>ak U U)<|?_
  focus (rw[Zx (by omega) hlt hc22 hjj,if_pos (by omega)];rfl;done)
  refine UW.skip<|UQ.aB<|UQ.then<|S.rg<|Q.mv U<|S.qu (Z.add (r:=((j+1:Nat):Int)) U U (IntWalk.i64_in _ (by omega)))<|Q.as U<|US.nil<|?_
  refine S.back _ ⟨rfl,rfl,rfl,trivial⟩ (.refl _) ?_ (by omega)
  refine⟨by omega,λi h3 h4=>?_⟩
  by_cases hij:i=j
  ·subst hij;exact hc22
  ·exact hjj i h3 (by omega)
 ·refine S.sq<|Q.rg<|Q.mv U<|Q.fa dw U<|Q.lc 0 dD U U U<|S.qu (Z.fG aY U)<|Q.bi U U U<|Q.nt<|S.cF U (decide_eq_false (by omega))<|UW.exit<|UQ.pass<|UQ.pass<|UQ.here<|UQ.then<|Q.rg<|Q.as U<|Q.nt<|UW.ret<|S.bK (λ_=>ak U U)<|?_
  focus (rw[VW λi h=>hjj i h (by omega)];rfl;done)
theorem Aw{x:V}{key:ByteArray}(hx:Fits x){i:Nat}(hp:pl x key=some i)(H:Hp):au Tryz.prog 68 [.agg (aD x),.v (.string key)] H (bz H (.v (.int .i64 (i:Int)))):=by
 have:=BC x key hx H;rw[hp] at this;exact this
theorem Ay{x:V}{key:ByteArray}(hx:Fits x)(hp:pl x key=none)(H:Hp):au Tryz.prog 68 [.agg (aD x),.v (.string key)] H (bz H (.v (.int .i64 (-1)))):=by
 have:=BC x key hx H;rw[hp] at this;exact this
theorem Q6(x:V)(hx:Fits x)(s:ByteArray)(H:Hp):
 au Tryz.prog 27 [.agg (aD x),.v (.string s)] H (bz H (.kM [.agg (aD (aI x s).1),.v (.bool (aI x s).2)])):=by
 cases hp:pl x s with
 |none=>
  have hg:aI x s=(zeroV,false):=by unfold aI;rw[hp]
  rw[hg]
  obtain⟨k,n,t,ks,vs⟩:=x
  refine aF (n:=18) (H0:=H) (I:=[]) Tryz.func27 (by kernel_rfl) U (by rw[Tryz.ntmps27];rfl) .nil<|?_
  refine Q.rg<|S.dd<|D.box U U U λp2=>S.dd<|D.al z26 U U U λp4=>Q.as U<|Q.nt<|Q.rg<|S.qu (Z.dA 1 av U U U)<|Q.mv U<|S.qu (Z.call U U (λ_=>Ay hx hp _))<|Q.as U<|Q.nt<|S.sq<|Q.rg<|Q.mv U<|Q.bi U U U<|Q.nt<|S.cT U (decide_eq_true (by omega))<|Q.rg<|S.qu (Z.bd [] iE U U U U U U)<|S.s<|D.st 0 av U U U U U U U U λ_=>Q.as U<|Q.nt<|UW.ret<|UQ.ax<|S.bK (λhd=>fJ U (jv (k:=0) hd U U fV fZ) (bE U))<|?_
  rfl
 |some i=>
  have hg:aI x s=(x.vs.getD i zeroV,true):=by unfold aI;rw[hp]
  have hlt:=(Dr hp).1
  rw[hg]
  obtain⟨k,n,t,ks,vs⟩:=x
  simp only[V.vs] at hlt⊢
  have hgl:=K8 vs i hlt
  refine aF (n:=18) (H0:=H) (I:=[]) Tryz.func27 (by kernel_rfl) U (by rw[Tryz.ntmps27];rfl) .nil<|?_
  refine Q.rg<|S.dd<|D.box U U U λp2=>S.dd<|D.al z26 U U U λp4=>Q.as U<|Q.nt<|Q.rg<|S.qu (Z.dA 1 av U U U)<|Q.mv U<|S.qu (Z.call U U (λ_=>Aw hx hp _))<|Q.as U<|Q.nt<|S.sq<|Q.rg<|Q.mv U<|Q.bi U U U<|Q.nt<|S.cF U (decide_eq_false (by omega))<|UW.skip<|UQ.then<|Q.rg<|Q.fa bO U<|Q.lc 1 dF U U U<|Q.mv U<|S.qu (Z.ia bM U U (by omega) (by assumption) (by exact Y _))<|?_
  refine S.qu (Z.Gm av U (Y _))<|S.s<|D.uq 0 av U U U U (by exact aA _) (Y _) U U λ_=>?_
  refine Q.as U<|Q.nt<|UW.ret<|S.bK (λhd=>fJ U (jv (k:=0) hd U U fV (by rw[Y];exact fZ)) (bE U))<|?_
  rfl
def N7(x:V)(at_ out:Nat)(keys:List ByteArray)(vals:List V):V:=
 .mk 5 x.n x.t (x.ks.take at_++keys++(x.ks.take (min x.ks.length x.vs.length)).drop (at_+out)) (x.vs.take at_++vals++(x.vs.take (min x.ks.length x.vs.length)).drop (at_+out))
theorem three{α:Type}(A B C:List α):(((A.take A.length++B).take (A.length+B.length))++C).take (A.length+B.length+C.length)=A++B++C:=by
 rw[List.take_length,<-List.length_append,List.take_length,<-List.length_append,List.take_length]
theorem Q7(x:V)(hx:Fits x)(at_ out:Nat)(keys:List ByteArray)(vals:List V)(hat:at_+out<=min x.ks.length x.vs.length)(hk1:keys.length<=1000000)(hv1:vals.length<=1000000)(H:Hp):
 au Tryz.prog 69 [.agg (aD x),.v (.int .i64 (at_:Int)),.v (.int .i64 (out:Int)),strs keys,.sl (aW vals)] H (K9 H (N7 x at_ out keys vals)):=by
 have TI:=hx.VE
 have aaJ:=hx.Vl
 obtain⟨k,n,t,ks,vs⟩:=x
 simp only[V.ks,V.vs] at TI aaJ hat
 have wI:(ks.map encS).length=ks.length:=List.length_map ..
 have hvl:=aP vs
 have hml2:(keys.map encS).length=keys.length:=List.length_map ..
 have hvl2:=aP vals
 refine aF (n:=64) (H0:=H) (I:=[]) Tryz.func69 (by kernel_rfl) U (by rw[Tryz.ntmps69];rfl) .nil<|?_
 refine Q.rg<|S.dd<|D.box U U U λp5=>S.dd<|D.al z26 U U U λp10=>Q.nt<|Q.rg<|Q.fa dw U<|Q.lc 1 dD U U U<|S.qu (Z.fG aY U)<|Q.fa bO U<|Q.lc 1 dF U U U<|S.qu (Z.fG bM U)<|?_
 refine S.qu (Z.eq (u':=.v (.int .i64 ((min ks.length vs.length:Nat):Int))) (Z.min U U) (by rw[wI,hvl];congr 2;split<;>omega)) ?_
 refine Q.as U<|Q.nt<|Q.rg<|Q.as U<|Q.nt<|Q.rg<|Q.as U<|Q.nt<|Q.rg<|Q.mv U<|Q.fa dw U<|Q.lc 1 dD U U U<|Q.mv U<|S.qu (Z.Vk aY U (jU _) (.hi U) (by omega) (by omega) U)<|S.dd<|D.apn dV U U (.sl (Ig (jU _))) (by(simp only[List.length_append,List.length_drop,List.length_take];omega)) λp26=>?_
 refine Q.as U<|Q.nt<|Q.rg<|Q.mv U<|Q.mv U<|S.dd<|D.ap 0 dV U U (by omega) U (.sl (jU _)) (by(simp only[List.length_append,List.length_drop,List.length_take];omega)) U λp29=>?_
 refine Q.as U<|Q.nt<|Q.rg<|Q.mv U<|Q.fa dw U<|Q.lc 2 dD U U U<|Q.mv U<|Q.mv U<|S.qu (Z.add (r:=((at_+out:Nat):Int)) U U (IntWalk.i64_in _ (by omega)))<|Q.mv U<|S.qu (Z.Vk aY U (jU _) (.both U U) (by omega) (by omega) U)<|S.dd<|D.ap 0 dV U U (by(simp only[List.length_append,List.length_drop,List.length_take];omega)) U (.sl (Ig (jU _))) (by(simp only[List.length_append,List.length_drop,List.length_take];omega)) U λp38=>?_
 refine Q.as U<|Q.nt<|Q.rg<|Q.mv U<|Q.fa bO U<|Q.lc 2 dF U U U<|Q.mv U<|S.qu (Z.Vk bM U (jq _) (.hi U) (by omega) (by omega) U)<|S.dd<|D.apn iP U U (.sl (Ig (jq _))) (by(simp only[List.length_append,List.length_drop,List.length_take];omega)) λp44=>?_
 refine Q.as U<|Q.nt<|Q.rg<|Q.mv U<|Q.mv U<|S.dd<|D.ap 0 iP U U (by omega) U (.sl (jq _)) (by(simp only[List.length_append,List.length_drop,List.length_take];omega)) U λp47=>?_
 refine Q.as U<|Q.nt<|Q.rg<|Q.mv U<|Q.fa bO U<|Q.lc 3 dF U U U<|Q.mv U<|Q.mv U<|S.qu (Z.add (r:=((at_+out:Nat):Int)) U U (IntWalk.i64_in _ (by omega)))<|Q.mv U<|S.qu (Z.Vk bM U (jq _) (.both U U) (by omega) (by omega) U)<|S.dd<|D.ap 0 iP U U (by(simp only[List.length_append,List.length_drop,List.length_take];omega)) U (.sl (Ig (jq _))) (by(simp only[List.length_append,List.length_drop,List.length_take];omega)) U λp56=>?_
 refine Q.as U<|Q.nt<|Q.rg<|Q.fa iA U<|Q.lc 3 qF U U U<|Q.fa jZ U<|Q.lc 3 ed U U U<|Q.mv U<|Q.mv U<|S.qu (Z.bd [0,1,2,3,4] iE U U U U U U)<|S.s<|D.st 2 av U U U U U U U U λ_=>Q.nt<|UW.ret<|?_
 have ek:(N7 (.mk k n t ks vs) at_ out keys vals).ks.map encS=List.drop 0 (List.take at_ (ks.map encS))++keys.map encS++List.drop (at_+out) (List.take (min ks.length vs.length) (ks.map encS)):=by
  simp[N7,yC,yD,List.map_take,List.map_drop]
 have ev:aW (N7 (.mk k n t ks vs) at_ out keys vals).vs=List.drop 0 (List.take at_ (aW vs))++aW vals++List.drop (at_+out) (List.take (min ks.length vs.length) (aW vs)):=by
  simp[N7,yC,yD,eB,List.map_take,List.map_drop]
 have elk:(N7 (.mk k n t ks vs) at_ out keys vals).ks.length=(List.drop 0 (List.take at_ (ks.map encS))).length+(keys.map encS).length+(List.drop (at_+out) (List.take (min ks.length vs.length) (ks.map encS))).length:=by
  rw[<-List.length_map (f:=encS),ek,List.length_append,List.length_append]
 have elv:(N7 (.mk k n t ks vs) at_ out keys vals).vs.length=(List.drop 0 (List.take at_ (aW vs))).length+(aW vals).length+(List.drop (at_+out) (List.take (min ks.length vs.length) (aW vs))).length:=by
  rw[<-aP,ev,List.length_append,List.length_append]
 refine bN [_,_] (λhd=>aU (k:=2) hd U U U fV fZ) (.cons_cons _ (.cons_cons _ (List.nil_sublist _))) λhd=>⟨_,hd,rfl,_,_,_,_,?_,rfl,?_,?_,?_,?_⟩
 ·rw[elk,elv];rfl
 ·rw[elk];simp only[List.length_append,List.length_take];omega
 ·rw[elk,ek];exact three _ _ _
 ·rw[elv];simp only[List.length_append,List.length_take];omega
 ·rw[elv,ev];exact three _ _ _
theorem zg(x:V)(hx:Fits x)(at_ out:Nat)(keys:List ByteArray)(vals:List V)(hat:at_+out<=min x.ks.length x.vs.length)(hk1:keys.length<=1000000)(hv1:vals.length<=1000000)(H:Hp):
 au Tryz.prog 69 [.agg (aD x),.v (.int .i64 (at_:Int)),.v (.int .i64 (out:Int)),strs keys,.sl (aW vals)] H (bz H (.agg (aD (N7 x at_ out keys vals)))):=vU (Q7 x hx at_ out keys vals hat hk1 hv1 H)
theorem Q8(x:V)(hx:Fits x)(at_ out:Nat)(hat:at_+out<=min x.ks.length x.vs.length)(H:Hp):
 au Tryz.prog 69 [.agg (aD x),.v (.int .i64 (at_:Int)),.v (.int .i64 (out:Int)),.v (.slice none 0 0),.v (.slice none 0 0)] H (bz H (.agg (aD (N7 x at_ out [] [])))):=by
 refine au.args (lT:=[.agg (aD x),.v (.int .i64 (at_:Int)),.v (.int .i64 (out:Int)),strs [],.sl (aW [])]) (λ_ _ h=>h) U (λj u u' h1 h2=>?_) (zg x hx at_ out [] [] hat (by decide) (by decide) H)
 match j with
 |0=>cases h1;cases h2;exact bL.drop (λ_ _ h=>h) _
 |1=>cases h1;cases h2;exact bL.drop (λ_ _ h=>h) _
 |2=>cases h1;cases h2;exact bL.drop (λ_ _ h=>h) _
 |3=>cases h1;cases h2;exact bL.nil _
 |4=>cases h1;cases h2;exact bL.nil _
 |j+5=>simp at h1
theorem VY(x:V):cutV x=.mk x.k x.n x.t (x.ks.take (min x.ks.length x.vs.length)) (x.vs.take (min x.ks.length x.vs.length)):=rfl
theorem Jo{x:V}{key:ByteArray}{i:Nat}(h:pl x key=some i):i+1<=min x.ks.length x.vs.length:=by have:=Dr h;omega
theorem DK{α:Type}(l:List α)(m i:Nat)(h:i<=m):cutAt (l.take m) i=l.take i++(l.take m).drop (i+1):=by
 unfold cutAt
 rw[List.take_take,Nat.min_eq_left h]
theorem N8{x:V}{key:ByteArray}{i:Nat}(h:pl x key=some i):N7 x i 1 [] []=bC x key:=by
 have h1:=Jo h
 have h2:=(Dr h).2.2
 unfold bC N7
 rw[h]
 simp only[cutV,yC,yD,List.append_nil]
 rw[DK _ _ _ (by omega),DK _ _ _ (by omega),h2]
theorem qE(x:V)(hx:Fits x)(key:ByteArray)(H:Hp):au Tryz.prog 16 [.agg (aD x),.v (.string key)] H (bz H (.agg (aD (bC x key)))):=by
 cases hp:pl x key with
 |none=>
  have hg:bC x key=x:=by unfold bC;rw[hp]
  rw[hg]
  obtain⟨k,n,t,ks,vs⟩:=x
  refine aF (n:=15) (H0:=H) (I:=[]) Tryz.func16 (by kernel_rfl) U (by rw[Tryz.ntmps16];rfl) .nil<|?_
  refine Q.rg<|S.dd<|D.box U U U λp2=>S.dd<|D.al z26 U U U λp4=>Q.nt<|Q.rg<|S.qu (Z.dA 1 av U U U)<|Q.mv U<|S.qu (Z.call U U (λ_=>Ay hx hp _))<|Q.as U<|Q.nt<|S.sq<|Q.rg<|Q.mv U<|Q.bi U U U<|Q.nt<|S.cT U (decide_eq_true (by omega))<|Q.rg<|S.qu (Z.dA 1 av U U U)<|S.s<|D.st 0 av U U U U U U U U λ_=>Q.nt<|UW.ret<|UQ.ax<|S.bK (λhd=>aU (k:=0) hd U U U fV fZ)<|?_
  rfl
 |some i=>
  rw[<-N8 hp]
  obtain⟨k,n,t,ks,vs⟩:=x
  refine aF (n:=15) (H0:=H) (I:=[]) Tryz.func16 (by kernel_rfl) U (by rw[Tryz.ntmps16];rfl) .nil<|?_
  refine Q.rg<|S.dd<|D.box U U U λp2=>S.dd<|D.al z26 U U U λp4=>Q.nt<|Q.rg<|S.qu (Z.dA 1 av U U U)<|Q.mv U<|S.qu (Z.call U U (λ_=>Aw hx hp _))<|Q.as U<|Q.nt<|S.sq<|Q.rg<|Q.mv U<|Q.bi U U U<|Q.nt<|S.cF U (decide_eq_false (by omega))<|UW.skip<|UQ.then<|Q.rg<|S.qu (Z.dA 1 av U U U)<|Q.mv U<|S.qu (Z.call U U (λ_=>Q8 _ hx i 1 (Jo hp) _))<|S.s<|D.st 0 av U U U U U U U U λ_=>Q.nt<|UW.ret<|S.bK (λhd=>aU (k:=0) hd U U U fV fZ)<|?_
  rfl
end Go.Proofs.YtonpfomjoiaacaaGreatDoor
end
