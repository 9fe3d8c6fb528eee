/- A part of the proof. -/
import Derived.Test.YtbooeongacgnbaaGreatDoorMw27
import Derived.Test.YtbooeongacgnbaaGreatDoorMw24
import Derived.Lib.QuoteLoop
import Derived.Test.YtbooeongacgnbaaGreatDoorMw20
set_option maxRecDepth 100000
set_option maxHeartbeats 4000000
set_option linter.unusedSectionVars false
set_option linter.unusedVariables false
set_option linter.unusedSimpArgs false
section
namespace Go.Proofs.YtbooeongacgnbaaGreatDoor
open Go Go.gW Go.RowKit
def nz(i:Nat)(s:ByteArray):Nat×Ob:=(i,.row 5 1 (aU s))
def Kg(s:ByteArray)(G:Hp)(u:AV)(H':Hp):Prop:=∃news,aK G news/\H'=aB G news/\∃j,u=.own j 0 s.size 1/\news=[nz j s]
theorem yS{c:Int}(h0:0<=c)(h1:c<256):IntKind.u8.wrap ((BitVec.ofInt IntKind.u8.bits c&&&BitVec.ofInt IntKind.u8.bits 63).toNat)=c % 64:=by
 have h:∀n:Fin 256,IntKind.u8.wrap ((BitVec.ofInt IntKind.u8.bits (n.val:Int)&&&BitVec.ofInt IntKind.u8.bits 63).toNat)=(n.val:Int)% 64:=by decide
 have:=h ⟨c.toNat,by omega⟩
 rwa [show(((⟨c.toNat,by omega⟩:Fin 256).val:Nat):Int)=c from by show((c.toNat:Nat):Int)=c;omega] at this
theorem yT{c:Int}(h0:0<=c)(h1:c<64):IntKind.u8.wrap ((BitVec.ofInt IntKind.u8.bits 128|||BitVec.ofInt IntKind.u8.bits c).toNat)=128+c:=by
 have h:∀n:Fin 64,IntKind.u8.wrap ((BitVec.ofInt IntKind.u8.bits 128|||BitVec.ofInt IntKind.u8.bits (n.val:Int)).toNat)=128+(n.val:Int):=by decide
 have:=h ⟨c.toNat,by omega⟩
 rwa [show(((⟨c.toNat,by omega⟩:Fin 64).val:Nat):Int)=c from by show((c.toNat:Nat):Int)=c;omega] at this
theorem XG{c:Int}(h0:0<=c)(h1:c<32):IntKind.u8.wrap ((BitVec.ofInt IntKind.u8.bits 192|||BitVec.ofInt IntKind.u8.bits c).toNat)=192+c:=by
 have h:∀n:Fin 32,IntKind.u8.wrap ((BitVec.ofInt IntKind.u8.bits 192|||BitVec.ofInt IntKind.u8.bits (n.val:Int)).toNat)=192+(n.val:Int):=by decide
 have:=h ⟨c.toNat,by omega⟩
 rwa [show(((⟨c.toNat,by omega⟩:Fin 32).val:Nat):Int)=c from by show((c.toNat:Nat):Int)=c;omega] at this
theorem TH{c:Int}(h0:0<=c)(h1:c<16):IntKind.u8.wrap ((BitVec.ofInt IntKind.u8.bits 224|||BitVec.ofInt IntKind.u8.bits c).toNat)=224+c:=by
 have h:∀n:Fin 16,IntKind.u8.wrap ((BitVec.ofInt IntKind.u8.bits 224|||BitVec.ofInt IntKind.u8.bits (n.val:Int)).toNat)=224+(n.val:Int):=by decide
 have:=h ⟨c.toNat,by omega⟩
 rwa [show(((⟨c.toNat,by omega⟩:Fin 16).val:Nat):Int)=c from by show((c.toNat:Nat):Int)=c;omega] at this
theorem XH{c:Int}(h0:0<=c)(h1:c<8):IntKind.u8.wrap ((BitVec.ofInt IntKind.u8.bits 240|||BitVec.ofInt IntKind.u8.bits c).toNat)=240+c:=by
 have h:∀n:Fin 8,IntKind.u8.wrap ((BitVec.ofInt IntKind.u8.bits 240|||BitVec.ofInt IntKind.u8.bits (n.val:Int)).toNat)=240+(n.val:Int):=by decide
 have:=h ⟨c.toNat,by omega⟩
 rwa [show(((⟨c.toNat,by omega⟩:Fin 8).val:Nat):Int)=c from by show((c.toNat:Nat):Int)=c;omega] at this
theorem lh{r d:Int}(h:0<=d):r.fdiv d=r/d:=Int.fdiv_eq_ediv_of_nonneg _ h
theorem kT(c:Int):IntKind.u8.wrap c=c % 256:=IntKind.wrap_u8 c
theorem Gr{a b:Int}(h0:0<=a/\a<256)(h1:0<=b/\b<256):[[AV.v (.int .u8 a)],[AV.v (.int .u8 b)]]=aU (aM a++aM b):=by
 rw[df,bM h0.1 h0.2,bM h1.1 h1.2];rfl
theorem XI{a b c:Int}(h0:0<=a/\a<256)(h1:0<=b/\b<256)(h2:0<=c/\c<256):[[AV.v (.int .u8 a)],[AV.v (.int .u8 b)],[AV.v (.int .u8 c)]]=aU (aM a++aM b++aM c):=by
 rw[df,df,bM h0.1 h0.2,bM h1.1 h1.2,bM h2.1 h2.2];rfl
theorem XJ{a b c d:Int}(h0:0<=a/\a<256)(h1:0<=b/\b<256)(h2:0<=c/\c<256)(h3:0<=d/\d<256):[[AV.v (.int .u8 a)],[AV.v (.int .u8 b)],[AV.v (.int .u8 c)],[AV.v (.int .u8 d)]]=aU (aM a++aM b++aM c++aM d):=by
 rw[df,df,df,bM h0.1 h0.2,bM h1.1 h1.2,bM h2.1 h2.2,bM h3.1 h3.2];rfl
theorem RX(i:Nat)(s:ByteArray)(hs:s.size<=100000000)(r:Int)(h1:128<=r)(h2:r<2048)(G:Hp)(hd:aK G [nz i s]):F Tryz.prog 165 [.own i 0 s.size 1,.v (.int .i32 r)] (aB G [nz i s]) (Kg (s++bF r) G):=by
 have hl:=eF s
 have hb:bF r=aM (192+r/64)++aM (128+r % 64):=by unfold bF;rw[if_neg (by omega),if_pos h2]
 have hrw:(aU s).take s.size++[[AV.v (.int .u8 (192+r/64))],[AV.v (.int .u8 (128+r % 64))]]=aU (s++bF r):=by rw[df,List.take_of_length_le (by omega),hb,Gr (by omega) (by omega)]
 have hsz:s.size+2=(s++bF r).size:=by rw[aY,hb];rfl
 have w1:=kT (r/64)
 have w2:=kT r
 unfold nz at hd⊢
 refine aA (n:=78) (H0:=G) (M:=[(i,.row 5 1 (aU s))]) Tryz.func165 (by kernel_rfl) U (by rw[Tryz.ntmps165];rfl) hd<|?_
 refine Q.rg<|Q.as U<|Q.nt<|Q.rg<|Q.mv U<|S.qu (Z.cv (r:=r) Tryz.underlying124 U (by rw[IntKind.wrap_u32];omega) (by rw[Tryz.underlying21];rfl))<|?_
 refine Q.as U<|Q.nt<|UW.block<|Q.rg<|Q.mv U<|Q.bi U U U<|Q.as U<|Q.nt<|S.cT U (decide_eq_true (by omega))<|Q.rg<|Q.mv U<|Q.mv U<|S.qu (Z.shr (r:=r/64) U U (by decide) (lh (by decide)))<|S.qu (Z.cv (r:=r/64) Tryz.underlying5 U (by rw[w1];omega) (by rw[Tryz.underlying21];rfl))<|?_
 refine S.qu (Z.eq (u':=.v (.int .u8 (192+r/64))) (Z.bi U U U) (by rw[XG (by omega) (by omega)]))<|?_
 refine Q.mv U<|S.qu (Z.cv (r:=r % 256) Tryz.underlying5 U w2 (by rw[Tryz.underlying21];rfl))<|?_
 refine S.qu (Z.eq (u':=.v (.int .u8 (r % 64))) (Z.bi U U U) (by rw[yS (by omega) (by omega),show r % 256 % 64=r % 64 from by omega]))<|?_
 refine S.qu (Z.eq (u':=.v (.int .u8 (128+r % 64))) (Z.bi U U U) (by rw[yT (by omega) (by omega)]))<|?_
 refine S.qu (Z.bl iT U U (dx U))<|S.dd<|D.ap 0 iT U U (by omega) U (.sl (pM U)) (by first|omega|(simp;omega)) hrw λp24=>?_
 refine Q.as U<|Q.nt<|UW.ret<|UQ.az<|?_
 exact bD [_] (λ_=>au U U) (.refl _) λhd=>⟨_,hd,rfl,_,by rw[<-hsz];rfl,rfl⟩
theorem RY(i:Nat)(s:ByteArray)(hs:s.size<=100000000)(r:Int)(h1:2048<=r)(h2:r<65536)(h3:r<55296\/57343<r)(G:Hp)(hd:aK G [nz i s]):F Tryz.prog 165 [.own i 0 s.size 1,.v (.int .i32 r)] (aB G [nz i s]) (Kg (s++bF r) G):=by
 have hl:=eF s
 have hb:bF r=aM (224+r/4096)++aM (128+r/64 % 64)++aM (128+r % 64):=by unfold bF;rw[if_neg (by omega),if_neg (by omega),if_pos h2]
 have hrw:(aU s).take s.size++[[AV.v (.int .u8 (224+r/4096))],[AV.v (.int .u8 (128+r/64 % 64))],[AV.v (.int .u8 (128+r % 64))]]=aU (s++bF r):=by rw[df,List.take_of_length_le (by omega),hb,XI (by omega) (by omega) (by omega)]
 have hsz:s.size+3=(s++bF r).size:=by rw[aY,hb];rfl
 have w1:=kT (r/64)
 have w2:=kT r
 have w3:=kT (r/4096)
 unfold nz at hd⊢
 refine aA (n:=78) (H0:=G) (M:=[(i,.row 5 1 (aU s))]) Tryz.func165 (by kernel_rfl) U (by rw[Tryz.ntmps165];rfl) hd<|?_
 focus
  refine Q.rg<|Q.as U<|Q.nt<|Q.rg<|Q.mv U<|S.qu (Z.cv (r:=r) Tryz.underlying124 U (by rw[IntKind.wrap_u32];omega) (by rw[Tryz.underlying21];rfl))<|?_
  refine Q.as U<|Q.nt<|UW.block<|Q.rg<|Q.mv U<|Q.bi U U U<|Q.as U<|Q.nt<|S.cF U (decide_eq_false (by omega))<|S.sq<|Q.rg<|Q.mv U<|Q.bi U U U<|Q.as U<|Q.nt<|?_
  refine S.cD U (λhc25=>?_) (λhc25=>?_)
  refine UW.skip<|UQ.then<|S.cT U (decide_eq_true (by omega))<|Q.rg<|Q.mv U<|Q.mv U<|S.qu (Z.shr (r:=r/4096) U U (by decide) (lh (by decide)))<|S.qu (Z.cv (r:=r/4096) Tryz.underlying5 U (by rw[w3];omega) (by rw[Tryz.underlying21];rfl))<|?_
  refine S.qu (Z.eq (u':=.v (.int .u8 (224+r/4096))) (Z.bi U U U) (by rw[TH (by omega) (by omega)]))<|?_
  refine Q.mv U<|S.qu (Z.shr (r:=r/64) U U (by decide) (lh (by decide)))<|S.qu (Z.cv (r:=r/64 % 256) Tryz.underlying5 U w1 (by rw[Tryz.underlying21];rfl))<|?_
  refine S.qu (Z.eq (u':=.v (.int .u8 (r/64 % 64))) (Z.bi U U U) (by rw[yS (by omega) (by omega),show r/64 % 256 % 64=r/64 % 64 from by omega]))<|?_
  refine S.qu (Z.eq (u':=.v (.int .u8 (128+r/64 % 64))) (Z.bi U U U) (by rw[yT (by omega) (by omega)]))<|?_
  refine Q.mv U<|S.qu (Z.cv (r:=r % 256) Tryz.underlying5 U w2 (by rw[Tryz.underlying21];rfl))<|?_
  refine S.qu (Z.eq (u':=.v (.int .u8 (r % 64))) (Z.bi U U U) (by rw[yS (by omega) (by omega),show r % 256 % 64=r % 64 from by omega]))<|?_
  refine S.qu (Z.eq (u':=.v (.int .u8 (128+r % 64))) (Z.bi U U U) (by rw[yT (by omega) (by omega)]))<|?_
  refine S.qu (Z.bl iT U U (dx U))<|S.dd<|D.ap 0 iT U U (by omega) U (.sl (pM U)) (by first|omega|(simp;omega)) hrw λp49=>?_
  refine Q.as U<|Q.nt<|UW.ret<|UQ.az<|?_
  rotate_left
  refine S.rg<|Q.mv U<|Q.bi U U U<|Q.mv U<|?_
  refine S.tD 30 (λFJ=>?_) (λFJ=>?_)
  rotate_left
  omega
  rotate_right
  refine Q.on (Z.mv U)<|Q.on (Z.bi U U U)<|Q.pk U U<|Q.as U<|Q.nt<|S.cT U (decide_eq_true (by omega))<|Q.rg<|Q.mv U<|Q.mv U<|S.qu (Z.shr (r:=r/4096) U U (by decide) (lh (by decide)))<|S.qu (Z.cv (r:=r/4096) Tryz.underlying5 U (by rw[w3];omega) (by rw[Tryz.underlying21];rfl))<|?_
  refine S.qu (Z.eq (u':=.v (.int .u8 (224+r/4096))) (Z.bi U U U) (by rw[TH (by omega) (by omega)]))<|?_
  refine Q.mv U<|S.qu (Z.shr (r:=r/64) U U (by decide) (lh (by decide)))<|S.qu (Z.cv (r:=r/64 % 256) Tryz.underlying5 U w1 (by rw[Tryz.underlying21];rfl))<|?_
  refine S.qu (Z.eq (u':=.v (.int .u8 (r/64 % 64))) (Z.bi U U U) (by rw[yS (by omega) (by omega),show r/64 % 256 % 64=r/64 % 64 from by omega]))<|?_
  refine S.qu (Z.eq (u':=.v (.int .u8 (128+r/64 % 64))) (Z.bi U U U) (by rw[yT (by omega) (by omega)]))<|?_
  refine Q.mv U<|S.qu (Z.cv (r:=r % 256) Tryz.underlying5 U w2 (by rw[Tryz.underlying21];rfl))<|?_
  refine S.qu (Z.eq (u':=.v (.int .u8 (r % 64))) (Z.bi U U U) (by rw[yS (by omega) (by omega),show r % 256 % 64=r % 64 from by omega]))<|?_
  refine S.qu (Z.eq (u':=.v (.int .u8 (128+r % 64))) (Z.bi U U U) (by rw[yT (by omega) (by omega)]))<|?_
  refine S.qu (Z.bl iT U U (dx U))<|S.dd<|D.ap 0 iT U U (by omega) U (.sl (pM U)) (by first|omega|(simp;omega)) hrw λp49=>?_
  refine Q.as U<|Q.nt<|UW.ret<|UQ.az<|?_
  rotate_left
 exact bD [_] (λ_=>au U U) (.refl _) λhd=>⟨_,hd,rfl,_,by rw[<-hsz];rfl,rfl⟩
 exact bD [_] (λ_=>au U U) (.refl _) λhd=>⟨_,hd,rfl,_,by rw[<-hsz];rfl,rfl⟩
theorem RZ(i:Nat)(s:ByteArray)(hs:s.size<=100000000)(r:Int)(h1:65536<=r)(h2:r<=1114111)(G:Hp)(hd:aK G [nz i s]):F Tryz.prog 165 [.own i 0 s.size 1,.v (.int .i32 r)] (aB G [nz i s]) (Kg (s++bF r) G):=by
 have hl:=eF s
 have hb:bF r=aM (240+r/262144)++aM (128+r/4096 % 64)++aM (128+r/64 % 64)++aM (128+r % 64):=by unfold bF;rw[if_neg (by omega),if_neg (by omega),if_neg (by omega)]
 have hrw:(aU s).take s.size++[[AV.v (.int .u8 (240+r/262144))],[AV.v (.int .u8 (128+r/4096 % 64))],[AV.v (.int .u8 (128+r/64 % 64))],[AV.v (.int .u8 (128+r % 64))]]=aU (s++bF r):=by rw[df,List.take_of_length_le (by omega),hb,XJ (by omega) (by omega) (by omega) (by omega)]
 have hsz:s.size+4=(s++bF r).size:=by rw[aY,hb];rfl
 have w1:=kT (r/64)
 have w2:=kT r
 have w3:=kT (r/4096)
 have w4:=kT (r/262144)
 unfold nz at hd⊢
 refine aA (n:=78) (H0:=G) (M:=[(i,.row 5 1 (aU s))]) Tryz.func165 (by kernel_rfl) U (by rw[Tryz.ntmps165];rfl) hd<|?_
 focus
  refine Q.rg<|Q.as U<|Q.nt<|Q.rg<|Q.mv U<|S.qu (Z.cv (r:=r) Tryz.underlying124 U (by rw[IntKind.wrap_u32];omega) (by rw[Tryz.underlying21];rfl))<|?_
  refine Q.as U<|Q.nt<|UW.block<|Q.rg<|Q.mv U<|Q.bi U U U<|Q.as U<|Q.nt<|S.cF U (decide_eq_false (by omega))<|S.sq<|Q.rg<|Q.mv U<|Q.bi U U U<|Q.as U<|Q.nt<|S.cF U (decide_eq_false (by omega))<|S.rg<|Q.mv U<|Q.bi U U U<|Q.mv U<|?_
  refine S.tD 30 (λFJ=>?_) (λFJ=>?_)
  rotate_left
  omega
  refine Q.on (Z.mv U)<|Q.on (Z.bi U U U)<|Q.pk U U<|Q.as U<|Q.nt<|S.cF U (decide_eq_false (by omega))<|Q.rg<|Q.mv U<|Q.bi U U U<|Q.mv U<|?_
  refine S.tD 53 (λZc=>?_) (λZc=>?_)
  rotate_left
  omega
  refine Q.on (Z.mv U)<|Q.on (Z.bi U U U)<|Q.pk U U<|Q.as U<|Q.nt<|S.cT U (decide_eq_true (by omega))<|Q.rg<|Q.mv U<|Q.mv U<|S.qu (Z.shr (r:=r/262144) U U (by decide) (lh (by decide)))<|S.qu (Z.cv (r:=r/262144) Tryz.underlying5 U (by rw[w4];omega) (by rw[Tryz.underlying21];rfl))<|?_
  refine S.qu (Z.eq (u':=.v (.int .u8 (240+r/262144))) (Z.bi U U U) (by rw[XH (by omega) (by omega)]))<|?_
  refine Q.mv U<|S.qu (Z.shr (r:=r/4096) U U (by decide) (lh (by decide)))<|S.qu (Z.cv (r:=r/4096 % 256) Tryz.underlying5 U w3 (by rw[Tryz.underlying21];rfl))<|?_
  refine S.qu (Z.eq (u':=.v (.int .u8 (r/4096 % 64))) (Z.bi U U U) (by rw[yS (by omega) (by omega),show r/4096 % 256 % 64=r/4096 % 64 from by omega]))<|?_
  refine S.qu (Z.eq (u':=.v (.int .u8 (128+r/4096 % 64))) (Z.bi U U U) (by rw[yT (by omega) (by omega)]))<|?_
  refine Q.mv U<|S.qu (Z.shr (r:=r/64) U U (by decide) (lh (by decide)))<|S.qu (Z.cv (r:=r/64 % 256) Tryz.underlying5 U w1 (by rw[Tryz.underlying21];rfl))<|?_
  refine S.qu (Z.eq (u':=.v (.int .u8 (r/64 % 64))) (Z.bi U U U) (by rw[yS (by omega) (by omega),show r/64 % 256 % 64=r/64 % 64 from by omega]))<|?_
  refine S.qu (Z.eq (u':=.v (.int .u8 (128+r/64 % 64))) (Z.bi U U U) (by rw[yT (by omega) (by omega)]))<|?_
  refine Q.mv U<|S.qu (Z.cv (r:=r % 256) Tryz.underlying5 U w2 (by rw[Tryz.underlying21];rfl))<|?_
  refine S.qu (Z.eq (u':=.v (.int .u8 (r % 64))) (Z.bi U U U) (by rw[yS (by omega) (by omega),show r % 256 % 64=r % 64 from by omega]))<|?_
  refine S.qu (Z.eq (u':=.v (.int .u8 (128+r % 64))) (Z.bi U U U) (by rw[yT (by omega) (by omega)]))<|?_
  refine S.qu (Z.bl iT U U (dx U))<|S.dd<|D.ap 0 iT U U (by omega) U (.sl (pM U)) (by first|omega|(simp;omega)) hrw λp77=>?_
  refine Q.as U<|Q.nt<|UW.ret<|UQ.az<|?_
 exact bD [_] (λ_=>au U U) (.refl _) λhd=>⟨_,hd,rfl,_,by rw[<-hsz];rfl,rfl⟩
theorem VZ(i:Nat)(s:ByteArray)(hs:s.size<=100000000)(r:Int)(h0:0<=r)(h1:r<128)(G:Hp)(hd:aK G [nz i s]):F Tryz.prog 150 [.own i 0 s.size 1,.v (.int .i32 r)] (aB G [nz i s]) (Kg (s++bF r) G):=by
 have hl:=eF s
 have hb:bF r=aM r:=qA h1
 have hrw:(aU s).take s.size++[[AV.v (.int .u8 r)]]=aU (s++bF r):=by rw[df,List.take_of_length_le (by omega),hb,bM h0 (by omega)]
 have hsz:s.size+1=(s++bF r).size:=by rw[aY,hb];rfl
 unfold nz at hd⊢
 refine aA (n:=16) (H0:=G) (M:=[(i,.row 5 1 (aU s))]) Tryz.func150 (by kernel_rfl) U (by rw[Tryz.ntmps150];rfl) hd<|?_
 refine Q.rg<|Q.as U<|Q.nt<|S.sq<|Q.rg<|Q.mv U<|S.qu (Z.cv (r:=r) Tryz.underlying124 U (by rw[IntKind.wrap_u32];omega) (by rw[Tryz.underlying21];rfl))<|?_
 refine Q.bi U U U<|Q.nt<|S.cT U (decide_eq_true (by omega))<|Q.rg<|Q.mv U<|Q.mv U<|S.qu (Z.cv (r:=r) Tryz.underlying5 U (by rw[kT];omega) (by rw[Tryz.underlying21];rfl))<|?_
 refine S.qu (Z.bl iT U U (dx U))<|S.dd<|D.ap 0 iT U U (by omega) U (.sl (pM U)) (by first|omega|(simp;omega)) hrw λWH=>?_
 refine Q.as U<|Q.nt<|UW.ret<|UQ.aj<|?_
 exact bD [_] (λ_=>au U U) (.refl _) λhd=>⟨_,hd,rfl,_,by rw[<-hsz];rfl,rfl⟩
def oG(r:Int):Prop:=0<=r/\r<=1114111/\(r<55296\/57343<r)
theorem Kh(i:Nat)(s:ByteArray)(hs:s.size<=100000000)(r:Int)(h1:128<=r)(hr:oG r)(G:Hp)(hd:aK G [nz i s]):F Tryz.prog 165 [.own i 0 s.size 1,.v (.int .i32 r)] (aB G [nz i s]) (Kg (s++bF r) G):=by
 obtain⟨h0,h2,h3⟩:=hr
 by_cases g1:r<2048
 ·exact RX i s hs r h1 g1 G hd
 ·by_cases g2:r<65536
  ·exact RY i s hs r (by omega) g2 h3 G hd
  ·exact RZ i s hs r (by omega) h2 G hd
theorem V3(i:Nat)(s:ByteArray)(hs:s.size<=100000000)(r:Int)(h1:128<=r)(hr:oG r)(G:Hp)(hd:aK G [nz i s]):F Tryz.prog 150 [.own i 0 s.size 1,.v (.int .i32 r)] (aB G [nz i s]) (Kg (s++bF r) G):=by
 have ha:=λG hd=>Kh i s hs r h1 hr G hd
 have hr2:=hr.2.1
 unfold nz at hd⊢
 refine aA (n:=16) (H0:=G) (M:=[(i,.row 5 1 (aU s))]) Tryz.func150 (by kernel_rfl) U (by rw[Tryz.ntmps150];rfl) hd<|?_
 refine Q.rg<|Q.as U<|Q.nt<|S.sq<|Q.rg<|Q.mv U<|S.qu (Z.cv (r:=r) Tryz.underlying124 U (by rw[IntKind.wrap_u32];omega) (by rw[Tryz.underlying21];rfl))<|?_
 refine Q.bi U U U<|Q.nt<|S.cF U (decide_eq_false (by omega))<|UW.skip<|UQ.then<|Q.rg<|Q.mv U<|Q.mv U<|S.dd<|D.co (.cons 0 U .nil) U U (λG hD=>ha G hD)<|?_
 (rintro _ _ ⟨j,rfl,rfl⟩)
 refine Q.as U<|Q.nt<|UW.ret<|?_
 exact bD [_] (λ_=>au U U) (.refl _) λhd=>⟨_,hd,rfl,_,rfl,rfl⟩
theorem MN(i:Nat)(s:ByteArray)(hs:s.size<=100000000)(r:Int)(hr:oG r)(G:Hp)(hd:aK G [nz i s]):F Tryz.prog 150 [.own i 0 s.size 1,.v (.int .i32 r)] (aB G [nz i s]) (Kg (s++bF r) G):=by
 by_cases h:r<128
 ·exact VZ i s hs r hr.1 h G hd
 ·exact V3 i s hs r (by omega) hr G hd
theorem rM(p r:Nat)(a:AV)(ha:Xd p a)(s:ByteArray)(hs:s.size<=100000000)(c:Int)(hc:oG c)(G:Hp)(hd:aK G (sV p r a s)):F Tryz.prog 128 [.ptr p 0,.v (.int .i32 c)] (aB G (sV p r a s)) (λu H'=>∃news,aK G news/\H'=aB G news/\Qh p (s++bF c) (.dH [.v (.int .i64 ((bF c).size:Int)),.v .nilIface]) u news):=by
 have hcc:=λG hd=>mH p r a ha s G hd
 have har:=λG hd=>MN r s hs c hc G hd
 have hl:=eF s
 have hz:=nV c
 have hz2:(s++bF c).size=s.size+(bF c).size:=aY _ _
 unfold sV at hd hcc⊢
 unfold nz at har
 refine aA (n:=30) (H0:=G) (M:=[(r,.row 5 1 (aU s)),(p,.box 79 [a,.own r 0 s.size 1])]) Tryz.func128 (by kernel_rfl) U (by rw[Tryz.ntmps128];rfl) hd<|?_
 refine Q.rg<|Q.as U<|Q.as U<|Q.nt<|Q.rg<|Q.mv U<|S.dd<|D.co (.cons 0 U (.cons 0 U .nil)) U U (λG hD=>hcc G hD)<|?_
 rintro _ _ ⟨rfl,rfl⟩
 refine Q.nt<|Q.rg<|Q.mv U<|S.qu (Z.iC U)<|Q.fa qI U<|Q.lc 1 y9 U U U<|S.qu (Z.Co jf U)<|Q.as U<|Q.nt<|Q.rg<|Q.mv U<|Q.mv U<|S.qu (Z.iC U)<|Q.fa qI U<|Q.lc 1 y9 U U U<|Q.mv U<|S.dd<|D.co (.cons 0 U .nil) U U (λG hD=>har G hD)<|?_
 (rintro _ _ ⟨j,rfl,rfl⟩;unfold nz)
 refine S.qu (Z.iC U)<|Q.fa qI U<|S.s<|D.st 1 y9 U U U U U U U U λ_=>Q.nt<|Q.rg<|Q.mv U<|S.qu (Z.iC U)<|Q.fa qI U<|Q.lc 1 y9 U U U<|S.qu (Z.Co jf U)<|Q.mv U<|S.qu (Z.sub (r:=((bF c).size:Int)) U U (Eq.trans (IntWalk.i64_in _ (by omega)) (by omega)))<|Q.as U<|Q.as U<|Q.nt<|UW.ret<|?_
 exact bD [_,_] (λhd=>ax U (Y U) (Y U)) (.refl _) λhd=>⟨_,hd,rfl,rfl,_,rfl⟩
theorem OV(s:ByteArray)(p:Nat):oG ((Utf8.decode s p).1:Int):=by
 have h:=Lib.decodeN_valid (s.size-p) (s.get! p).toNat (s.get! (p+1)).toNat (s.get! (p+2)).toNat (s.get! (p+3)).toNat (UInt8.toNat_lt _)
 rw[<-Lib.decode_at] at h
 unfold oG
 omega
theorem MO{r:Int}(h:oG r):bl (bF r)=Lib.encodeRune r:=by
 obtain⟨h0,h1,h2⟩:=h
 by_cases g1:r<128
 ·have e:bF r=aM r:=qA g1
  unfold Lib.encodeRune
  rw[e,Lib.encodeRuneZ_one h0 (by omega)];rfl
 ·by_cases g2:r<2048
  ·have e:bF r=aM (192+r/64)++aM (128+r % 64):=by unfold bF;rw[if_neg g1,if_pos g2]
   unfold Lib.encodeRune
   rw[e,Lib.encodeRuneZ_two (by omega) (by omega)];rfl
  ·by_cases g3:r<65536
   ·have e:bF r=aM (224+r/4096)++aM (128+r/64 % 64)++aM (128+r % 64):=by unfold bF;rw[if_neg g1,if_neg g2,if_pos g3]
    unfold Lib.encodeRune
    rw[e,Lib.encodeRuneZ_three (by omega)];rfl
   ·have e:bF r=aM (240+r/262144)++aM (128+r/4096 % 64)++aM (128+r/64 % 64)++aM (128+r % 64):=by unfold bF;rw[if_neg g1,if_neg g2,if_neg g3]
    unfold Lib.encodeRune
    rw[e,Lib.encodeRuneZ_four (by omega) (by omega)];rfl
theorem R3(s:ByteArray)(p:Nat)(hp:p<s.size):
 (fA (s.extract p s.size)=0/\Utf8.decode s p=(65533,1))\/
 ∃w:Nat,fA (s.extract p s.size)=(w:Int)/\0<w/\p+w<=s.size/\(Utf8.decode s p).2=w/\bF ((Utf8.decode s p).1:Int)=s.extract p (p+w):=by
 rcases Lc s p hp with ⟨_,h⟩|⟨_,h1,h2⟩
 ·left
  refine⟨h,?_⟩
  have h3:=qa s p hp
  rw[h] at h3
  exact(Lb s p hp (by omega)).1
 ·right
  have hb:=vT (s.extract p s.size)
  rw[ext_size] at hb
  obtain⟨w,hw⟩:=Int.eq_ofNat_of_zero_le hb.1
  rw[hw] at h1 h2 hb
  rw[Int.toNat_natCast] at h2
  refine⟨w,hw,by omega,by omega,h2.symm,?_⟩
  have h3:=qa s p hp
  rw[hw] at h3
  have hg:=GK s p hp (by omega)
  have hdl:=Lib.decodeL_drop s p
  have hne:s.data.toList.drop p≠[]:=λe=>by
   have:=congrArg List.length e
   rw[List.length_drop] at this
   have hz:s.data.toList.length=s.size:=rfl
   simp at this
   omega
  have hen:=Lib.encode_decode (s.data.toList.drop p) hne (by
   rw[hdl]
   rintro⟨g1,g2⟩
   obtain⟨_,g3,_⟩:=hg.2 g1
   have hlen:gK (s.size-p) (bt s p) (bt s (p+1)) (bt s (p+2)) (bt s (p+3))=1:=by rw[<-hg.1,g2]
   unfold gK at hlen
   rw[if_neg (by omega)] at hlen
   (repeat' split at hlen)<;>omega)
  apply lH
  rw[MO (OV s p),bZ,Nat.add_sub_cancel_left]
  rw[hdl,<-h2] at hen
  exact hen
theorem Ki(s:ByteArray)(p:Nat)(hp:p<s.size)(m:Nat)(hm:m=min s.size (p+4)):fA ((s.extract p m).extract 0 (s.extract p m).size)=fA (s.extract p s.size):=by
 have hz:(s.extract p m).size=min 4 (s.size-p):=by rw[ByteArray.size_extract];omega
 rw[qa _ 0 (by omega),qa s p hp]
 have hbt:∀j,j<min 4 (s.size-p)->bt (s.extract p m) (0+j)=bt s (p+j):=λj hj=>by
  rw[eX _ (0+j) (by omega),eX s (p+j) (by omega)]
  congr 1
  rw[ByteArray.getElem_extract]
  congr 1
  omega
 have h0:=hbt 0 (by omega)
 rw[Nat.add_zero,Nat.add_zero] at h0
 rw[h0,hz]
 congr 1
 have e:∀B0 B1 B2 B3:Nat,gK (min 4 (s.size-p)-0) B0 B1 B2 B3=gK (s.size-p) B0 B1 B2 B3:=λB0 B1 B2 B3=>by
  unfold gK
  have a1:(1<min 4 (s.size-p)-0)↔(1<s.size-p):=by omega
  have a2:(2<min 4 (s.size-p)-0)↔(2<s.size-p):=by omega
  have a3:(3<min 4 (s.size-p)-0)↔(3<s.size-p):=by omega
  simp only[a1,a2,a3]
 rw[e]
 exact Am (λh=>hbt 1 (by omega)) (λh=>hbt 2 (by omega)) (λh=>hbt 3 (by omega))
theorem H5(s:ByteArray):∀f p,lN s f p= -1\/(p:Int)<=lN s f p
 |0,p=> .inl U
 |f+1,p=>by
  rw[lN]
  split
  ·split
   ·exact .inr (Int.le_refl _)
   ·rcases H5 s f (p+(fA (s.extract p s.size)).toNat) with h|h
    ·exact .inl h
    ·exact .inr (by omega)
  ·exact .inl U
theorem Kj(s:ByteArray)(p:Nat)(hp:p<s.size):(nu (s.extract p (min s.size (p+4)))=0)↔fA (s.extract p s.size)=0:=by
 have hw:=Ki s p hp _ U
 have hz:0<(s.extract p (min s.size (p+4))).size:=by rw[ByteArray.size_extract];omega
 rw[Jp]
 unfold NY
 rw[lN,if_pos hz,hw]
 constructor
 ·intro h
  by_cases h0:fA (s.extract p s.size)=0
  ·exact h0
  ·rw[if_neg h0] at h
   have hb:=vT (s.extract p s.size)
   rcases H5 (s.extract p (min s.size (p+4))) (s.extract p (min s.size (p+4))).size (0+(fA (s.extract p s.size)).toNat) with g|g
   ·omega
   ·omega
 ·intro h
  rw[if_pos h];rfl
theorem R4{u:ByteArray}{p n:Nat}{r:Int}(h:jy u p=some (r,n))(TE:aO u (p:Int)=92):∀j,j<n->aO u ((p+j:Nat):Int)<128:=by
 have hx:∀c:Int,0<=ed c->c<128:=λc hc=>by
  unfold ed at hc
  (repeat' split at hc)<;>omega
 have hun:∀q,0<=aR u q->∀j,j<6->aO u ((q+j:Nat):Int)<128:=λq hq j hj=>by
  unfold aR at hq
  split at hq
  ·rename_i hc
   split at hq
   ·exact absurd hq (by decide)
   ·rename_i hn
    have g2:=hx (aO u ((q+2:Nat):Int)) (Int.not_lt.1 λg=>hn (.inl g))
    have g3:=hx (aO u ((q+3:Nat):Int)) (Int.not_lt.1 λg=>hn (.inr (.inl g)))
    have g4:=hx (aO u ((q+4:Nat):Int)) (Int.not_lt.1 λg=>hn (.inr (.inr (.inl g))))
    have g5:=hx (aO u ((q+5:Nat):Int)) (Int.not_lt.1 λg=>hn (.inr (.inr (.inr g))))
    match j,hj with
    |0,_=>rw[Nat.add_zero];omega
    |1,_=>omega
    |2,_=>exact g2
    |3,_=>exact g3
    |4,_=>exact g4
    |5,_=>exact g5
  ·exact absurd hq (by decide)
 unfold jy at h
 split at h
 ·rename_i g
  injection h with h
  injection h with h1 h2
  subst h2
  intro j hj
  match j,hj with
  |0,_=>rw[Nat.add_zero,TE];decide
  |1,_=>
   have hm:=g.2
   unfold eH at hm
   (repeat' split at hm)<;>omega
 ·split at h
  ·cases h
  ·rename_i g1 g2
   split at h
   ·injection h with h
    injection h with h1 h2
    subst h2
    exact hun p (by omega)
   ·split at h
    ·cases h
    ·rename_i g3 g4
     injection h with h
     injection h with h1 h2
     subst h2
     intro j hj
     by_cases h6:j<6
     ·exact hun p (by omega) j h6
     ·have:=hun (p+6) (by omega) (j-6) (by omega)
      rwa [show p+6+(j-6)=p+j from by omega] at this
theorem OW(s:ByteArray)(pos:Nat):Ad s pos=((Utf8.decode s pos).1==65533&&!(Lib.hasPrefix (s.extract pos s.size).data.toList vR.data.toList)):=by
 unfold Ad
 congr 2
 exact Lib.hasPrefix_raw (s.extract pos s.size) vR
theorem nY(s:ByteArray)(hs:s.size<=1000000)(H:Hp):F Tryz.prog 35 [.v (.string s)] H (bn H (.v (.int .i64 (nu s)))):=by
 refine aA (n:=21) (H0:=H) (M:=[]) Tryz.func35 (by kernel_rfl) U (by rw[Tryz.ntmps35];rfl) .nil<|?_
 refine Q.rg<|Q.as U<|Q.nt<|S.sq<|Q.rg<|Q.mv U<|S.dd<|D.rg Tryz.underlying9 U λp6=>Q.nt<|UW.block<|S.loop (λj:Nat×Nat=>[(6,.ptr p6 0),(0,.v (.string s))]) (λj=>[(p6,.iter s j.1)]) (λj=>s.size-j.1<j.2/\Gz s j.2 j.1=nu s) (λj=>j.2) (0,s.size+1) ⟨by show s.size-0<s.size+1;omega,rfl⟩ ⟨rfl,rfl,trivial⟩ (.refl _)<|?_
 rintro⟨pos,f⟩ ⟨hf,hc⟩
 dsimp only at hf hc⊢
 obtain⟨f,rfl⟩:∃f',f=f'+1:=⟨f-1,by omega⟩
 rw[Gz] at hc
 by_cases hlt:pos<s.size
 ·rw[if_pos hlt,OW] at hc
  have hst:=GA s pos hlt
  have hp:=bW (s.extract pos s.size) vR
  generalize hd:Utf8.decode s pos=dd at*
  obtain⟨r,w⟩:=dd
  dsimp only at hst hc
  cases hb:Lib.hasPrefix (s.extract pos s.size).data.toList vR.data.toList with
  |true=>
   rw[hb] at hc hp
   rw[if_neg (by simp)] at hc
   have hJ:s.size-(pos+w)<f/\Gz s f (pos+w)=nu s:=⟨by omega,hc⟩
   refine Q.rg<|S.dd<|D.nx 0 U U (by omega) (by rw[hd])<|?_
   rw[hd]
   refine S.qu (Z.ex U U)<|Q.nt<|S.sq<|S.cT U U<|UW.skip<|UQ.then<|UW.block<|Q.rg<|S.qu (Z.ex U U)<|S.qu (Z.ex U U)<|Q.as U<|Q.as U<|Q.nt<|Q.rg<|Q.mv U<|Q.bi U U U<|Q.mv U<|?_
   refine S.tE 13 (λpY=>?_) (λpY=>?_)
   refine Q.on (Z.mv U)<|Q.on (Z.mv U)<|Q.on (Z.slt Tryz.underlying9 U (.lo U) (by omega) (by omega))<|Q.on (Z.call U U (λH=>hp H))<|Q.on (Z.not U)<|Q.pk U U<|Q.nt<|S.cF U U<|UW.skip<|UQ.aI<|?_
   refine S.back (pos+w,f) ⟨rfl,rfl,trivial⟩ (.refl _) (by omega) (by omega)
   refine Q.of<|Q.of<|Q.of<|Q.of<|Q.of<|Q.pk U U<|Q.nt<|S.cF U U<|UW.skip<|UQ.aI<|?_
   refine S.back (pos+w,f) ⟨rfl,rfl,trivial⟩ (.refl _) (by omega) (by omega)
  |false=>
   rw[hb] at hc hp
   by_cases h3:r=65533
   ·subst h3
    rw[if_pos (by simp)] at hc
    rw[<-hc]
    focus
     refine Q.rg<|S.dd<|D.nx 0 U U (by omega) (by rw[hd])<|?_
     rw[hd]
     refine S.qu (Z.ex U U)<|Q.nt<|S.sq<|S.cT U U<|UW.skip<|UQ.then<|UW.block<|Q.rg<|S.qu (Z.ex U U)<|S.qu (Z.ex U U)<|Q.as U<|Q.as U<|Q.nt<|Q.rg<|Q.mv U<|Q.bi U U U<|Q.mv U<|?_
     refine S.tE 13 (λpY=>?_) (λpY=>?_)
     rotate_left
     omega
     refine Q.on (Z.mv U)<|Q.on (Z.mv U)<|Q.on (Z.slt Tryz.underlying9 U (.lo U) (by omega) (by omega))<|Q.on (Z.call U U (λH=>hp H))<|Q.on (Z.not U)<|Q.pk U U<|Q.nt<|S.cT U U<|Q.rg<|Q.mv U<|Q.as U<|Q.nt<|UW.ret<|UQ.az<|UQ.aj<|UQ.az<|UQ.aj<|S.bG (λ_=>au U U)<|?_
     rfl
   ·rw[if_neg (by simp[h3])] at hc
    have hJ:s.size-(pos+w)<f/\Gz s f (pos+w)=nu s:=⟨by omega,hc⟩
    refine Q.rg<|S.dd<|D.nx 0 U U (by omega) (by rw[hd])<|?_
    rw[hd]
    refine S.qu (Z.ex U U)<|Q.nt<|S.sq<|S.cT U U<|UW.skip<|UQ.then<|UW.block<|Q.rg<|S.qu (Z.ex U U)<|S.qu (Z.ex U U)<|Q.as U<|Q.as U<|Q.nt<|Q.rg<|Q.mv U<|Q.bi U U U<|Q.mv U<|?_
    refine S.tE 13 (λpY=>?_) (λpY=>?_)
    omega
    refine Q.of<|Q.of<|Q.of<|Q.of<|Q.of<|Q.pk U U<|Q.nt<|S.cF U U<|UW.skip<|UQ.aI<|?_
    refine S.back (pos+w,f) ⟨rfl,rfl,trivial⟩ (.refl _) (by omega) (by omega)
 ·rw[if_neg hlt] at hc
  rw[<-hc]
  refine Q.rg<|S.dd<|D.WZ 0 U U (by omega)<|S.qu (Z.ex U U)<|Q.nt<|S.sq<|S.cF U U<|UW.exit<|UQ.pass<|UQ.pass<|UQ.here<|UQ.then<|Q.rg<|Q.as U<|Q.nt<|UW.ret<|S.bG (λ_=>au U U)<|?_
  rfl
theorem Ce(p:Nat)(G:Hp)(hd:aK G [(p,.box 79 [.v (.pointer none),.v (.slice none 0 0)])]):F Tryz.prog 48 [.ptr p 0] (aB G [(p,.box 79 [.v (.pointer none),.v (.slice none 0 0)])]) (λu H'=>∃news,aK G news/\H'=aB G news/\(u=.v (.string ⟨#[]⟩)/\news=[])):=by
 refine aA (n:=14) (H0:=G) (M:=[(p,.box 79 [.v (.pointer none),.v (.slice none 0 0)])]) Tryz.func48 (by kernel_rfl) U (by rw[Tryz.ntmps48];rfl) hd<|?_
 refine Q.rg<|Q.as U<|Q.nt<|S.sq<|?_
 refine' UW.dC (by kernel_rfl) [0,1,3,7,15,0,32,96,224,480,1023,2047] [some 3,some 4,some 5,some 6,some 7,some 8,some 9,some 10,some 11,some 12,some 13,some 2] [some (3,_),some (4,_),some (5,_),some (6,_),some (7,_),some (8,_),some (9,_),some (10,_),some (11,_),some (12,_),some (13,_),some (2,_)] [] [3,8] U (by decide) (by decide) (I.free (by decide) U U ?uX (I.free (by decide) U U ?uY (I.free (by decide) U U ?AY (I.held (by decide) U U ?AZ (I.free (by decide) U U ?A7 (I.free (by decide) U U ?JS (I.free (by decide) U U ?JU (I.free (by decide) U U ?JV (I.held (by decide) U U ?JW (I.free (by decide) U U ?JX (I.free (by decide) U U ?Fe (I.free (by decide) U U ?Ff I.nil)))))))))))) ?JY
 case uX=>(intro _;exact Z.mv rfl)
 case uY=>(intro _;exact Z.iC rfl)
 case AY=>(intro _;exact Z.fa qI rfl)
 case AZ=>exact Z.dQ 0 y9 rfl rfl rfl
 case A7=>(intro _;exact Z.usn rfl)
 case JS=>(intro _;exact Z.mv rfl)
 case JU=>(intro _;exact Z.iC rfl)
 case JV=>(intro _;exact Z.fa qI rfl)
 case JW=>exact Z.dQ 0 y9 rfl rfl rfl
 case JX=>(intro _;exact Z.lnn jf rfl)
 case Fe=>(intro _;exact Z.usz rfl rfl)
 case Ff=>(intro _;exact Z.as rfl)
 refine CH.nil<|?_
 simp only[app,bV]
 refine UQ.then<|UW.ret<|?_
 exact bD [] (λ_=>au U U) (List.nil_sublist _) λhd=>⟨[],.nil,rfl,rfl,rfl⟩
end Go.Proofs.YtbooeongacgnbaaGreatDoor
end
section
namespace Go.gW
open Go Go.RowKit
section
variable [Rd]
section
variable {H0:Hp}
theorem Dh{l l':List (Nat×Ob)}(hp:l.Perm l'):aK H0 l->aB H0 l=aB H0 l'/\aK H0 l':=by
 induction hp with
 |nil=>exactλh=>⟨rfl,h⟩
 | @cons p l l' _ ih=>
   obtain⟨i,a⟩:=p
   intro h
   cases h with
   |cons h1 h2=>
    obtain⟨e1,e2⟩:=ih h2
    refine⟨?_,.cons (by rw[<-e1];exact h1) e2⟩
    show set (aB H0 l) i (some a)=set (aB H0 l') i (some a)
    rw[e1]
 |swap p q l=>
  obtain⟨i,a⟩:=p
  obtain⟨j,b⟩:=q
  intro h
  obtain⟨hne,h2⟩:=LW h
  exact⟨LV hne,h2⟩
 |trans _ _ ih1 ih2=>
  intro h
  obtain⟨e1,e2⟩:=ih1 h
  obtain⟨e3,e4⟩:=ih2 e2
  exact⟨e1.trans e3,e4⟩
end
section
variable {P:Program} {n:Nat} {ops:Array Oper} {H0:Hp} {l:List (Nat×AV)} {M rq ru:List (Nat×Ob)} {us dD:List AV} {f:Nat} {cc:Operand} {args:Array Operand} {at_:Array TypeId} {dst:Option Nat} {ty:TypeId} {ps:String} {af:Array Edge} {K:AV->List (Nat×Ob)->Prop} {R:AV->List (Nat×Ob)->Prop}
theorem D.Yj(rq ru:List (Nat×Ob))(hpk:M.Perm (rq++ru))(hc:bA l cc=some (.lW f dD))(ha:gD l args.toList=some us)(h:∀G,aK G rq->F P f (us++dD) (aB G rq) (λu H'=>∃news,aK G news/\H'=aB G news/\R u news))(hk:∀u news,R u news->K u (ru++news)):
 DS P n ops H0 ⟨dst,.call {callee:=.value cc,args:=args,argTypes:=at_},ty,ps,af,none⟩ l M K:=λaD=>by
 obtain⟨e1,e2⟩:=Dh hpk aD
 have e3:=jR (H0:=H0) rq ru
 have hdr:aK H0 ru:=e2.sub (List.sublist_append_right _ _)
 have hds:aK (aB H0 ru) rq:=by
  have:∀(rq:List (Nat×Ob)),aK H0 (rq++ru)->aK (aB H0 ru) rq:=by
   intro rq
   induction rq with
   |nil=>exactλ_=> .nil
   |cons p s ih=>
    intro h
    cases h with
    |cons h1 h2=>exact .cons (by rw[jR];exact h1) (ih h2)
  exact this rq e2
 refine Does.call U U (aJ hc)<|?_
 rw[iJ ha,e1,<-e3]
 refine(h (aB H0 ru) hds).mono λu H' ⟨news,h1,h2,h3⟩=>?_
 obtain⟨e4,e5⟩:=Dh (H0:=H0) (List.perm_append_comm (l₁:=news) (l₂:=ru)) (aK.app hdr h1)
 exact⟨ru++news,by rw[h2,jR,e4],e5,hk u news h3⟩
theorem D.oJ(hpk:vN M rq ru)(hc:bA l cc=some (.lW f dD))(ha:gD l args.toList=some us)(h:∀G,Sub H0 G->aK G rq->F P f (us++dD) (aB G rq) (λu H'=>∃news,aK G news/\H'=aB G news/\R u news))(hk:∀u news,R u news->K u (news++ru)):
 DS P n ops H0 ⟨dst,.call {callee:=.value cc,args:=args,argTypes:=at_},ty,ps,af,none⟩ l M K:=λhd=>by
 obtain⟨a,b,c⟩:=hpk.split hd
 refine Does.call U U (aJ hc)<|?_
 rw[iJ ha,c]
 exact(h _ (Es a) b).mono λu H' ⟨news,h1,h2,h3⟩=>⟨news++ru,by rw[h2,jR],aK.app a h1,hk u news h3⟩
theorem D.H6{fs:List AV}(hpk:vN M rq ru)(hc:bA l cc=some (.bnd f fs))(ha:gD l args.toList=some us)(h:∀G,Sub H0 G->aK G rq->F P f (fs++us) (aB G rq) (λu H'=>∃news,aK G news/\H'=aB G news/\R u news))(hk:∀u news,R u news->K u (news++ru)):
 DS P n ops H0 ⟨dst,.call {callee:=.value cc,args:=args,argTypes:=at_},ty,ps,af,none⟩ l M K:=λhd=>by
 obtain⟨a,b,c⟩:=hpk.split hd
 refine Does.Xq U U (aJ hc)<|?_
 rw[iJ ha,c]
 exact(h _ (Es a) b).mono λu H' ⟨news,h1,h2,h3⟩=>⟨news++ru,by rw[h2,jR],aK.app a h1,hk u news h3⟩
end
theorem F.vO{P:Program}{f:Nat}{us:List AV}{G:Hp}{id e:Nat}{cells:List AV}{K:AV->Hp->Prop}(m e2 sz:Nat)(hz:0<sz)(hm:cells[m]? =some (.v (.slice none 0 0)))(hd:aK G [(id,.box e cells)])
 (h:∀r,aK G [(r,.row e2 sz []),(id,.box e (cells.set m (.own r 0 0 sz)))]->F P f us (aB G [(r,.row e2 sz []),(id,.box e (cells.set m (.own r 0 0 sz)))]) K) (hb:xK P f):F P f us (aB G [(id,.box e cells)]) K:=
 ⟨hb,λρ w vals hh hr=>by
   obtain⟨iG,ρ',e1,e2',e3,e4,e5⟩:=hh.new (w':=w) (.slice none 0 0) (.row e2 sz []) (Below.refl _ _) (λk hk=>by cases hk) (λρ' H' e'=>⟨hz,[],⟨by simp,.inl ⟨rfl,rfl⟩⟩,by simp,dW⟩)
   have hd2:aK G ((iG,.row e2 sz [])::[(id,.box e cells)]):=.cons e2' hd
   obtain⟨hok,hrr⟩:=dG.Ja (cells':=cells.set m (.own iG 0 0 sz)) hd2 (k:=1) rfl (by exact e4) (by simp) (λj u u' x hu hu' hrep=>by
    by_cases hj:j=m
    ·subst hj
     rw[hm] at hu;cases hu
     have:u'=.own iG 0 0 sz:=by
      rw[List.getElem?_set_self (List.getElem?_eq_some_iff.1 hm).1] at hu'
      exact(Option.some.inj hu').symm
     subst this
     rw[aP hrep]
     exact .lQ iG sz e3
    ·rw[List.getElem?_set_ne (λh=>hj h.symm)] at hu'
     rw[hu] at hu';cases hu';exact hrep)
   have hd3:=(hd2.kg (k:=1) (.box e (cells.set m (.own iG 0 0 sz))) U).2
   have hc:=h iG hd3
   have hrep:IX (bK ρ' (aB G [(iG,.row e2 sz []),(id,.box e (cells.set m (.own iG 0 0 sz)))])) ρ' w us vals:=⟨hr.1,λj u x h1 h2=>by
    have:=e5.rep (hr.2 j u x h1 h2)
    rw[show aB G [(iG,.row e2 sz []),(id,.box e (cells.set m (.own iG 0 0 sz)))]=aB G (((iG,.row e2 sz [])::[(id,.box e cells)]).set 1 (id,.box e (cells.set m (.own iG 0 0 sz)))) from rfl,<-hok]
    exact this⟩
   refine(hc.2 ρ' w vals hrr hrep).mono λen w' ⟨x,Tg,u,H',a1,a2,a3,a4,a5⟩=>⟨x,Tg,u,H',a1,a2,?_,a4,a5⟩
   have oz:Ext ρ (aB G [(id,.box e cells)]) w ρ' (aB G [(iG,.row e2 sz []),(id,.box e (cells.set m (.own iG 0 0 sz)))]) w:=⟨e5.os,e5.tape,e5.output,e5.size,e5.block,λk' ho=>e5.own k' (by
    have:¬bK ρ' (aB G [(iG,.row e2 sz []),(id,.box e (cells.set m (.own iG 0 0 sz)))]) k':=λh=>h ho
    rw[show aB G [(iG,.row e2 sz []),(id,.box e (cells.set m (.own iG 0 0 sz)))]=aB G (((iG,.row e2 sz [])::[(id,.box e cells)]).set 1 (id,.box e (cells.set m (.own iG 0 0 sz)))) from rfl,<-hok] at this
    exact Classical.not_not.1 this),e5.F4⟩
   exact oz.trans a3⟩
end
end Go.gW
end
