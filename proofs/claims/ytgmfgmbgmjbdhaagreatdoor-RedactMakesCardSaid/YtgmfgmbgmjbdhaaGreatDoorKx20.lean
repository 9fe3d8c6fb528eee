/-
  DERIVED: THE SHELF's CONTRACTS AT THIS DUMP, IN PLAIN WORDS (tools/lay-plain.mjs out of 'TryzShelfb.lean', which tools/lay-shelf.mjs wrote): THE SAME DECLARATIONS UNDER THE SAME NAMES: 'import', 'namespace', 'open', 'def', 'theorem' AND NOTHING ELSE: no command of the shelf's: FOR A HAND-IN. Each laying: the table of numbers ('.._ren') and one theorem, a field a fact of the dump's own or the kernel's comparison; each contract: ONE APPLICATION.
-/
import Derived.Shelf.Strings.OnBuilder
import Derived.Shelf.Small.Wraps
import Derived.Shelf.LaysM
import Derived.Shelf.Strconv.Itoa4
import Derived.Shelf.Strings.Fields
import Derived.Test.YtgmfgmbgmjbdhaaGreatDoorProg
namespace Go.Proofs
open Go.Shelf
def Tryz.lays156_ren : Go.Shelf.Ren := ⟨fun | 156 => 117 | 165 => 138 | 166 => 114 | 169 => 85 | 240 => 119 | 241 => 158 | 276 => 139 | 277 => 165 | n => n, fun | 31 => 23 | 9 => 9 | 3 => 3 | 4 => 4 | 0 => 0 | 20 => 20 | 72 => 82 | 76 => 113 | 70 => 80 | 37 => 22 | 75 => 88 | 127 => 117 | 164 => 147 | 5 => 5 | 80 => 90 | n => n, fun | n => n⟩
theorem Tryz.lays156 : Go.Proofs.Lays.n156 Tryz.prog Tryz.lays156_ren := {
  mixed := by kernel_rfl
  f156 := Tryz.func117.trans (congrArg some (by kernel_rfl))
  f165 := Tryz.func138.trans (congrArg some (by kernel_rfl))
  f166 := Tryz.func114.trans (congrArg some (by kernel_rfl))
  f169 := Tryz.func85.trans (congrArg some (by kernel_rfl))
  f240 := Tryz.func119.trans (congrArg some (by kernel_rfl))
  f241 := Tryz.func158.trans (congrArg some (by kernel_rfl))
  f276 := Tryz.func139.trans (congrArg some (by kernel_rfl))
  f277 := Tryz.func165.trans (congrArg some (by kernel_rfl))
  t0 := Tryz.underlying0
  a0 := Tryz.isAgg0
  z0 := Tryz.sizeOf0
  v0 := Tryz.zeroValue0
  t3 := Tryz.underlying3
  a3 := Tryz.isAgg3
  z3 := Tryz.sizeOf3
  v3 := Tryz.zeroValue3
  t4 := Tryz.underlying4
  a4 := Tryz.isAgg4
  z4 := Tryz.sizeOf4
  v4 := Tryz.zeroValue4
  t9 := Tryz.underlying9
  a9 := Tryz.isAgg9
  z9 := Tryz.sizeOf9
  v9 := Tryz.zeroValue9
  t20 := Tryz.underlying20
  a20 := Tryz.isAgg20
  z20 := Tryz.sizeOf20
  v20 := Tryz.zeroValue20
  t31 := Tryz.underlying23
  a31 := Tryz.isAgg23
  z31 := Tryz.sizeOf23
  v31 := Tryz.zeroValue23
  t37 := Tryz.underlying22
  a37 := Tryz.isAgg22
  z37 := Tryz.sizeOf22
  v37 := Tryz.zeroValue22
  t70 := Tryz.underlying80
  a70 := Tryz.isAgg80
  z70 := Tryz.sizeOf80
  v70 := Tryz.zeroValue80
  t72 := Tryz.underlying82
  a72 := Tryz.isAgg82
  z72 := Tryz.sizeOf82
  v72 := Tryz.zeroValue82
  t75 := Tryz.underlying88
  a75 := Tryz.isAgg88
  z75 := Tryz.sizeOf88
  v75 := Tryz.zeroValue88
  t76 := Tryz.underlying113
  a76 := Tryz.isAgg113
  z76 := Tryz.sizeOf113
  v76 := Tryz.zeroValue113
  t127 := Tryz.underlying117
  a127 := Tryz.isAgg117
  z127 := Tryz.sizeOf117
  v127 := Tryz.zeroValue117
  t164 := Tryz.underlying147
  a164 := Tryz.isAgg147
  z164 := Tryz.sizeOf147
  v164 := Tryz.zeroValue147 }
theorem Tryz.Builder_Extra_156 : Builder.Extra Tryz.prog Tryz.lays156_ren := {
  sizeBuilder := by kernel_rfl
  liesBuilder := by kernel_rfl
  t5 := Tryz.underlying5
  a5 := Tryz.isAgg5
  z5 := Tryz.sizeOf5
  v5 := Tryz.zeroValue5
  infoByte := by kernel_rfl
  cellsByte := by kernel_rfl
  sizeByte := by kernel_rfl
  neB5 := by decide }
open Go.RowKit in
/-- No element: the empty string; the world is as it was. (Whatever the slice's address and capacity: a nil slice too.) (LAID: no walk: one application.) -/
theorem Tryz.strings_Join_none (a : Option Addr) (c : Nat) (sep : ByteArray) (w : World) :
    Calls Tryz.prog 117 #[.slice a 0 c, .string sep] w fun e w' => e = .returned (.string ⟨#[]⟩) ∧ w' = w := Any.strings_Join_none Tryz.lays156 Tryz.Builder_Extra_156 a c sep w
open Go.RowKit in
/-- strings.Join: "Join concatenates the elements of its first argument to create a single string. The separator string sep is placed between elements in the resulting string.": HOWEVER MANY ELEMENTS. Below the heap's end the world is as it was. (LAID: no walk: one application.) -/
theorem Tryz.strings_Join (bk o c : Nat) (xs : List ByteArray) (sep : ByteArray) (w : World) (hcells : ∀ (j : Nat) x, xs[j]? = some x → w.cell? ⟨bk, o + j, none⟩ = some (.string x)) (hbk : bk < w.heap.size) (hN : xs.length ≤ 140737488355328) (hcap : xs.length ≤ c) (hlen : (Lib.join (xs.map (·.data.toList)) sep.data.toList).length ≤ 140737488355328) :
    Calls Tryz.prog 117 #[.slice (some ⟨bk, o, none⟩) xs.length c, .string sep] w fun e w' => e = .returned (.string ⟨(Lib.join (xs.map (·.data.toList)) sep.data.toList).toArray⟩) ∧ Below w.heap.size w w' := Any.strings_Join Tryz.lays156 Tryz.Builder_Extra_156 bk o c xs sep w hcells hbk hN hcap hlen
def Tryz.lays121_ren : Go.Shelf.Ren := ⟨fun | 121 => 78 | 214 => 115 | n => n, fun | 4 => 4 | 9 => 9 | n => n, fun | n => n⟩
theorem Tryz.lays121 : Go.Proofs.Lays.n121 Tryz.prog Tryz.lays121_ren := {
  mixed := by kernel_rfl
  f121 := Tryz.func78.trans (congrArg some (by kernel_rfl))
  f214 := Tryz.func115.trans (congrArg some (by kernel_rfl))
  t4 := Tryz.underlying4
  a4 := Tryz.isAgg4
  z4 := Tryz.sizeOf4
  v4 := Tryz.zeroValue4
  t9 := Tryz.underlying9
  a9 := Tryz.isAgg9
  z9 := Tryz.sizeOf9
  v9 := Tryz.zeroValue9 }
open Go.RowKit in
/-- strconv.FormatBool: "FormatBool returns "true" or "false" according to the value of b.": IT RETURNS 'Lib.formatBool b'; the world is as it was. (LAID: no walk: one application.) -/
theorem Tryz.strconv_FormatBool (b : Bool) (w : World) :
    Calls Tryz.prog 78 #[.bool b] w fun e w' => e = .returned (.string ⟨(Lib.formatBool b).toArray⟩) ∧ w' = w := Any.strconv_FormatBool Tryz.lays121 b w
def Tryz.laysM246_ren : Go.Shelf.Ren := ⟨fun | 246 => 116 | 283 => 134 | 284 => 135 | 285 => 136 | 286 => 137 | 129 => 154 | 317 => 153 | 318 => 155 | 319 => 156 | 320 => 157 | 337 => 163 | 338 => 164 | n => n, fun | 2 => 2 | 3 => 3 | 9 => 9 | 4 => 4 | 171 => 141 | 0 => 0 | 53 => 122 | 37 => 22 | 5 => 5 | 173 => 144 | 212 => 173 | 51 => 118 | 20 => 20 | 213 => 174 | 46 => 86 | 232 => 184 | 233 => 185 | n => n, fun | 17 => 3 | 18 => 4 | 19 => 5 | n => n⟩
theorem Tryz.laysM246 : Go.Proofs.LaysM.n246 Tryz.prog Tryz.laysM246_ren := {
  mixed := by kernel_rfl
  f129 := Tryz.func154.trans (congrArg some (by kernel_rfl))
  f246 := Tryz.func116.trans (congrArg some (by kernel_rfl))
  f283 := Tryz.func134.trans (congrArg some (by kernel_rfl))
  f284 := Tryz.func135.trans (congrArg some (by kernel_rfl))
  f285 := Tryz.func136.trans (congrArg some (by kernel_rfl))
  f286 := Tryz.func137.trans (congrArg some (by kernel_rfl))
  f317 := Tryz.func153.trans (congrArg some (by kernel_rfl))
  f318 := Tryz.func155.trans (congrArg some (by kernel_rfl))
  f319 := Tryz.func156.trans (congrArg some (by kernel_rfl))
  f320 := Tryz.func157.trans (congrArg some (by kernel_rfl))
  f337 := Tryz.func163.trans (congrArg some (by kernel_rfl))
  f338 := Tryz.func164.trans (congrArg some (by kernel_rfl))
  t0 := Tryz.underlying0
  a0 := Tryz.isAgg0
  z0 := Tryz.sizeOf0
  v0 := Tryz.zeroValue0
  t2 := Tryz.underlying2
  a2 := Tryz.isAgg2
  z2 := Tryz.sizeOf2
  v2 := Tryz.zeroValue2
  t3 := Tryz.underlying3
  a3 := Tryz.isAgg3
  z3 := Tryz.sizeOf3
  v3 := Tryz.zeroValue3
  t4 := Tryz.underlying4
  a4 := Tryz.isAgg4
  z4 := Tryz.sizeOf4
  v4 := Tryz.zeroValue4
  t5 := Tryz.underlying5
  a5 := Tryz.isAgg5
  z5 := Tryz.sizeOf5
  v5 := Tryz.zeroValue5
  t9 := Tryz.underlying9
  a9 := Tryz.isAgg9
  z9 := Tryz.sizeOf9
  v9 := Tryz.zeroValue9
  t20 := Tryz.underlying20
  a20 := Tryz.isAgg20
  z20 := Tryz.sizeOf20
  v20 := Tryz.zeroValue20
  t37 := Tryz.underlying22
  a37 := Tryz.isAgg22
  z37 := Tryz.sizeOf22
  v37 := Tryz.zeroValue22
  t46 := Tryz.underlying86
  a46 := Tryz.isAgg86
  z46 := Tryz.sizeOf86
  v46 := Tryz.zeroValue86
  t51 := Tryz.underlying118
  a51 := Tryz.isAgg118
  z51 := Tryz.sizeOf118
  v51 := Tryz.zeroValue118
  t53 := Tryz.underlying122
  a53 := Tryz.isAgg122
  z53 := Tryz.sizeOf122
  v53 := Tryz.zeroValue122
  t171 := Tryz.underlying141
  a171 := Tryz.isAgg141
  z171 := Tryz.sizeOf141
  v171 := Tryz.zeroValue141
  t173 := Tryz.underlying144
  a173 := Tryz.isAgg144
  z173 := Tryz.sizeOf144
  v173 := Tryz.zeroValue144
  t212 := Tryz.underlying173
  a212 := Tryz.isAgg173
  z212 := Tryz.sizeOf173
  v212 := Tryz.zeroValue173
  t213 := Tryz.underlying174
  a213 := Tryz.isAgg174
  z213 := Tryz.sizeOf174
  t232 := Tryz.underlying184
  a232 := Tryz.isAgg184
  z232 := Tryz.sizeOf184
  v232 := Tryz.zeroValue184
  t233 := Tryz.underlying185
  a233 := Tryz.isAgg185
  z233 := Tryz.sizeOf185
  v233 := Tryz.zeroValue185
  g17 := by kernel_rfl
  g18 := by kernel_rfl
  g19 := by kernel_rfl
  i0 := by kernel_rfl
  i2 := by kernel_rfl
  i3 := by kernel_rfl
  i4 := by kernel_rfl
  i5 := by kernel_rfl
  i9 := by kernel_rfl
  i20 := by kernel_rfl
  i37 := by kernel_rfl
  i46 := by kernel_rfl
  i51 := by kernel_rfl
  i53 := by kernel_rfl
  i171 := by kernel_rfl
  i173 := by kernel_rfl
  i212 := by kernel_rfl
  i232 := by kernel_rfl
  i233 := by kernel_rfl
  m17 := by kernel_rfl
  m18 := by kernel_rfl
  m19 := by kernel_rfl }
open Go.RowKit Go.Sort Go.Lib in
/-- internal/strconv.FormatInt: "FormatInt returns the string representation of i in the given base": AT BASE 10: i's decimal numeral, for every int64. The world behind the call: the world before it, new blocks behind the heap, draws. (LAID: no walk: one application.) -/
theorem Tryz.internal_strconv_FormatInt_10 (n : Int) (h0 : -9223372036854775808 ≤ n) (h1 : n ≤ 9223372036854775807) (w : World) (htab : Lib.TabIs Tryz.prog w "internal/strconv.uint64pow10" .u64 Lib.pow10Tab) :
    Calls Tryz.prog 116 #[.int .i64 n, .int .i64 10] w fun e w' => e = .returned (.string ⟨(Lib.itoa n).toArray⟩) ∧ ∃ k os, w' = grow (w.drewN k) os := Any.internal_strconv_FormatInt_10 Tryz.laysM246 n h0 h1 w htab
def Tryz.lays157_ren : Go.Shelf.Ren := ⟨fun | 157 => 46 | 229 => 89 | 199 => 90 | 261 => 124 | 311 => 144 | 312 => 145 | n => n, fun | 9 => 9 | 31 => 23 | 3 => 3 | 5 => 5 | 4 => 4 | 119 => 95 | 0 => 0 | 40 => 97 | 152 => 128 | 21 => 21 | 154 => 130 | 51 => 118 | 141 => 132 | 196 => 159 | 193 => 156 | 198 => 162 | 49 => 160 | 194 => 157 | 201 => 165 | 226 => 179 | 46 => 86 | 227 => 180 | n => n, fun | 0 => 0 | 6 => 1 | n => n⟩
theorem Tryz.lays157 : Go.Proofs.Lays.n157 Tryz.prog Tryz.lays157_ren := {
  mixed := by kernel_rfl
  f157 := Tryz.func46.trans (congrArg some (by kernel_rfl))
  f199 := Tryz.func90.trans (congrArg some (by kernel_rfl))
  f229 := Tryz.func89.trans (congrArg some (by kernel_rfl))
  f261 := Tryz.func124.trans (congrArg some (by kernel_rfl))
  f311 := Tryz.func144.trans (congrArg some (by kernel_rfl))
  f312 := Tryz.func145.trans (congrArg some (by kernel_rfl))
  t0 := Tryz.underlying0
  a0 := Tryz.isAgg0
  z0 := Tryz.sizeOf0
  v0 := Tryz.zeroValue0
  t3 := Tryz.underlying3
  a3 := Tryz.isAgg3
  z3 := Tryz.sizeOf3
  v3 := Tryz.zeroValue3
  t4 := Tryz.underlying4
  a4 := Tryz.isAgg4
  z4 := Tryz.sizeOf4
  v4 := Tryz.zeroValue4
  t5 := Tryz.underlying5
  a5 := Tryz.isAgg5
  z5 := Tryz.sizeOf5
  v5 := Tryz.zeroValue5
  t9 := Tryz.underlying9
  a9 := Tryz.isAgg9
  z9 := Tryz.sizeOf9
  v9 := Tryz.zeroValue9
  t21 := Tryz.underlying21
  a21 := Tryz.isAgg21
  z21 := Tryz.sizeOf21
  v21 := Tryz.zeroValue21
  t31 := Tryz.underlying23
  a31 := Tryz.isAgg23
  z31 := Tryz.sizeOf23
  v31 := Tryz.zeroValue23
  t40 := Tryz.underlying97
  a40 := Tryz.isAgg97
  z40 := Tryz.sizeOf97
  v40 := Tryz.zeroValue97
  t46 := Tryz.underlying86
  a46 := Tryz.isAgg86
  z46 := Tryz.sizeOf86
  v46 := Tryz.zeroValue86
  t49 := Tryz.underlying160
  a49 := Tryz.isAgg160
  z49 := Tryz.sizeOf160
  v49 := Tryz.zeroValue160
  t51 := Tryz.underlying118
  a51 := Tryz.isAgg118
  z51 := Tryz.sizeOf118
  v51 := Tryz.zeroValue118
  t119 := Tryz.underlying95
  a119 := Tryz.isAgg95
  z119 := Tryz.sizeOf95
  t141 := Tryz.underlying132
  a141 := Tryz.isAgg132
  z141 := Tryz.sizeOf132
  v141 := Tryz.zeroValue132
  t152 := Tryz.underlying128
  a152 := Tryz.isAgg128
  z152 := Tryz.sizeOf128
  v152 := Tryz.zeroValue128
  t154 := Tryz.underlying130
  a154 := Tryz.isAgg130
  z154 := Tryz.sizeOf130
  v154 := Tryz.zeroValue130
  t193 := Tryz.underlying156
  a193 := Tryz.isAgg156
  z193 := Tryz.sizeOf156
  v193 := Tryz.zeroValue156
  t194 := Tryz.underlying157
  a194 := Tryz.isAgg157
  z194 := Tryz.sizeOf157
  v194 := Tryz.zeroValue157
  t196 := Tryz.underlying159
  a196 := Tryz.isAgg159
  z196 := Tryz.sizeOf159
  v196 := Tryz.zeroValue159
  t198 := Tryz.underlying162
  a198 := Tryz.isAgg162
  z198 := Tryz.sizeOf162
  v198 := Tryz.zeroValue162
  t201 := Tryz.underlying165
  a201 := Tryz.isAgg165
  z201 := Tryz.sizeOf165
  v201 := Tryz.zeroValue165
  t226 := Tryz.underlying179
  a226 := Tryz.isAgg179
  z226 := Tryz.sizeOf179
  v226 := Tryz.zeroValue179
  t227 := Tryz.underlying180
  a227 := Tryz.isAgg180
  z227 := Tryz.sizeOf180
  v227 := Tryz.zeroValue180
  g0 := by kernel_rfl
  g6 := by kernel_rfl }
open Go.RowKit Go.Lib in
/-- strings.Fields, the table by 'Lib.TabIs' (as strings.TrimSpace's contract). 'hg': the table's number, by its name: at a dump 'by kernel_rfl'. (LAID: no walk: one application.) -/
theorem Tryz.strings_Fields (s : ByteArray) (w : World) (hs : s.size < 4294967281) (hascii : ∀ (j : Nat) b, s.data.toList[j]? = some b → b.toNat < 128) (htab : Lib.TabIs Tryz.prog w "strings.asciiSpace" .u8 Lib.asciiSpaceTab) :
    Calls Tryz.prog 46 #[.string s] w fun e w' =>
      e = .returned (.slice (some ⟨w.heap.size, 0, none⟩) (Lib.fields s.data.toList).length (Lib.fields s.data.toList).length) ∧ w' = w.alloc (.cells ((Lib.fields s.data.toList).map fun l => Value.string ⟨l.toArray⟩).toArray 9) := Any.strings_Fields Tryz.lays157 (by kernel_rfl) (by kernel_rfl) s w hs hascii htab
end Go.Proofs
