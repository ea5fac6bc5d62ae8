/- DERIVED: THE SHELF's CONTRACTS AT THIS DUMP, IN PLAIN WORDS (tools/lay-plain.mjs out of 'TrydShelf.lean', which tools/lay-shelf.mjs wrote): THE SAME DECLARATIONS UNDER THE SAME NAMES: 'import', 'namespace', 'open', 'def', 'theorem' AND NOTHING ELSE: no command of the shelf's: FOR A HAND-IN. Each laying: the table of numbers ('.._ren') and one theorem, a field a fact of the dump's own or the kernel's comparison; each contract: ONE APPLICATION. -/
import Derived.Shelf.Unicode.ValidAny
import Derived.Test.YthldnpmfelniiaaDoorProg
namespace Go.Proofs
open Go.Shelf
def Tryd.a8K : Go.Shelf.Ren := ⟨fun | 196 => 122 | 259 => 129 | n => n, fun | 9 => 9 | 4 => 4 | 3 => 3 | 5 => 5 | 12 => 12 | 119 => 184 | 0 => 0 | 46 => 188 | 139 => 187 | 138 => 186 | 53 => 41 | n => n, fun | 3 => 0 | 4 => 1 | n => n⟩
theorem Tryd.b5U : Go.Proofs.Lays.n196 Tryd.prog Tryd.a8K := {
  mixed := by kernel_rfl
  f196 := Tryd.func122.trans (congrArg some (by kernel_rfl))
  f259 := Tryd.func129.trans (congrArg some (by kernel_rfl))
  t0 := Tryd.underlying0
  a0 := Tryd.isAgg0
  z0 := Tryd.sizeOf0
  v0 := Tryd.zeroValue0
  t3 := Tryd.underlying3
  a3 := Tryd.isAgg3
  z3 := Tryd.sizeOf3
  v3 := Tryd.zeroValue3
  t4 := Tryd.underlying4
  a4 := Tryd.isAgg4
  z4 := Tryd.sizeOf4
  v4 := Tryd.zeroValue4
  t5 := Tryd.underlying5
  a5 := Tryd.isAgg5
  z5 := Tryd.sizeOf5
  v5 := Tryd.zeroValue5
  t9 := Tryd.underlying9
  a9 := Tryd.isAgg9
  z9 := Tryd.sizeOf9
  v9 := Tryd.zeroValue9
  t12 := Tryd.underlying12
  a12 := Tryd.isAgg12
  z12 := Tryd.sizeOf12
  v12 := Tryd.zeroValue12
  t46 := Tryd.underlying188
  a46 := Tryd.isAgg188
  z46 := Tryd.sizeOf188
  v46 := Tryd.zeroValue188
  t53 := Tryd.underlying41
  a53 := Tryd.isAgg41
  z53 := Tryd.sizeOf41
  v53 := Tryd.zeroValue41
  t119 := Tryd.underlying184
  a119 := Tryd.isAgg184
  z119 := Tryd.sizeOf184
  t138 := Tryd.underlying186
  a138 := Tryd.isAgg186
  z138 := Tryd.sizeOf186
  v138 := Tryd.zeroValue186
  t139 := Tryd.underlying187
  a139 := Tryd.isAgg187
  z139 := Tryd.sizeOf187
  v139 := Tryd.zeroValue187
  g3 := by kernel_rfl
  g4 := by kernel_rfl }
end Go.Proofs
