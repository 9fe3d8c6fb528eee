/- Values as data; the types of this program. -/
import Derived.Test.YtopaddebalfoeaaEc
import Derived.IntWalk
import Derived.Test.YtopaddebalfoeaaChecked
namespace Go.Proofs.Ytopaddebalfoeaa
open Go Go.RowKit Go.Eng

inductive V where
  | mk (k n : Int) (t : ByteArray) (ks : List ByteArray) (vs : List V)
namespace V
def k : V → Int | .mk k _ _ _ _ => k
def n : V → Int | .mk _ n _ _ _ => n
def t : V → ByteArray | .mk _ _ t _ _ => t
def ks : V → List ByteArray | .mk _ _ _ ks _ => ks
def vs : V → List V | .mk _ _ _ _ vs => vs
end V
def encS (s : ByteArray) : List AV := [.v (.string s)]
def encI (i : Int) : List AV := [.v (.int .i64 i)]
def strs (l : List ByteArray) : AV := .sl (l.map encS)
mutual
def encV : V → List AV
  | .mk k n t ks vs => [.v (.int .i64 k), .v (.int .i64 n), .v (.string t), .sl (ks.map encS), .sl (encVs vs)]
def encVs : List V → List (List AV)
  | [] => []
  | x :: r => encV x :: encVs r
end
theorem encVs_eq : ∀ l : List V, encVs l = l.map encV
  | [] => by simp [encVs]
  | x :: r => by simp [encVs, encVs_eq r]
theorem encV_len (x : V) : (encV x).length = 5 := by cases x; simp [encV]
theorem encV_cell (x : V) : (encV x).all cellAV = true := by cases x; simp [encV, cellAV, Value.oneCell']
section types
theorem ty2 : tyOf Try.prog 2 = some (false, 1) := by kernel_rfl
theorem ty3 : tyOf Try.prog 3 = some (false, 1) := by kernel_rfl
theorem ty4 : tyOf Try.prog 4 = some (false, 1) := by kernel_rfl
theorem ty5 : tyOf Try.prog 5 = some (false, 1) := by kernel_rfl
theorem ty9 : tyOf Try.prog 9 = some (false, 1) := by kernel_rfl
theorem ty20 : tyOf Try.prog 20 = some (false, 1) := by kernel_rfl
theorem ty21 : tyOf Try.prog 21 = some (false, 1) := by kernel_rfl
theorem ty23 : tyOf Try.prog 23 = some (false, 1) := by kernel_rfl
theorem ty24 : tyOf Try.prog 24 = some (false, 1) := by kernel_rfl
theorem ty25 : tyOf Try.prog 25 = some (false, 1) := by kernel_rfl
theorem ty27 : tyOf Try.prog 27 = some (true, 5) := by kernel_rfl
theorem ty32 : tyOf Try.prog 32 = some (false, 1) := by kernel_rfl
theorem ty33 : tyOf Try.prog 33 = some (false, 1) := by kernel_rfl
theorem ty35 : tyOf Try.prog 35 = some (false, 1) := by kernel_rfl
theorem ty37 : tyOf Try.prog 37 = some (false, 1) := by kernel_rfl
theorem ty45 : tyOf Try.prog 45 = some (false, 1) := by kernel_rfl
theorem ty55 : tyOf Try.prog 55 = some (false, 1) := by kernel_rfl
theorem ty60 : tyOf Try.prog 60 = some (false, 1) := by kernel_rfl
theorem ty70 : tyOf Try.prog 70 = some (false, 1) := by kernel_rfl
theorem sl24 : slT Try.prog 24 = some (9, 1, 16) := by kernel_rfl
theorem sl25 : slT Try.prog 25 = some (27, 5, 80) := by kernel_rfl
theorem sl35 : slT Try.prog 35 = some (5, 1, 1) := by kernel_rfl
theorem sl55 : slT Try.prog 55 = some (3, 1, 8) := by kernel_rfl
theorem z3 : (Try.prog.info? 3).map (·.zero) = some (some (.int .i64 0)) := by kernel_rfl
theorem z5 : (Try.prog.info? 5).map (·.zero) = some (some (.int .u8 0)) := by kernel_rfl
theorem z9 : (Try.prog.info? 9).map (·.zero) = some (some (.string ⟨#[]⟩)) := by kernel_rfl
theorem z23 : (Try.prog.info? 23).map (·.zero) = some (some (.nilFunc)) := by kernel_rfl
theorem z27 : (Try.prog.info? 27).map (·.zero) = some (some (.agg #[.int .i64 0, .int .i64 0, .string ⟨#[]⟩, .slice none 0 0, .slice none 0 0])) := by kernel_rfl
theorem row24 : RowT Try.prog 24 9 1 16 := ⟨sl24, ⟨_, z9, rfl, rfl⟩, by decide, by decide⟩
theorem row25 : RowT Try.prog 25 27 5 80 := ⟨sl25, ⟨_, z27, rfl, rfl⟩, by decide, by decide⟩
theorem row35 : RowT Try.prog 35 5 1 1 := ⟨sl35, ⟨_, z5, rfl, rfl⟩, by decide, by decide⟩
theorem row55 : RowT Try.prog 55 3 1 8 := ⟨sl55, ⟨_, z3, rfl, rfl⟩, by decide, by decide⟩
theorem f27_0 : fieldOf Try.prog 27 0 = some 0 := by kernel_rfl
theorem f27_1 : fieldOf Try.prog 27 1 = some 1 := by kernel_rfl
theorem f27_2 : fieldOf Try.prog 27 2 = some 2 := by kernel_rfl
theorem f27_3 : fieldOf Try.prog 27 3 = some 3 := by kernel_rfl
theorem f27_4 : fieldOf Try.prog 27 4 = some 4 := by kernel_rfl
theorem ft27_1 : fieldT Try.prog 27 1 = some (1, false, 1) := by kernel_rfl
theorem ft27_3 : fieldT Try.prog 27 3 = some (3, false, 1) := by kernel_rfl
theorem bt27 : builtT Try.prog 27 = some ([.int .i64 0, .int .i64 0, .string ⟨#[]⟩, .slice none 0 0, .slice none 0 0], [(0, 1), (1, 1), (2, 1), (3, 1), (4, 1)]) := by kernel_rfl
theorem st27 : ∃ fs, Try.prog.underlying 27 = some (.struct fs) := ⟨_, Try.underlying27⟩
theorem sz27 : (Try.prog.info? 27).map (·.size) = some 5 := by kernel_rfl
end types
end Go.Proofs.Ytopaddebalfoeaa
