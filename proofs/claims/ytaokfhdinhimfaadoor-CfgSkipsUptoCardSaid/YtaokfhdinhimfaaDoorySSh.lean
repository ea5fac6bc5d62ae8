/- DERIVED: THE SHELF's CONTRACTS AT THIS DUMP, IN PLAIN WORDS (tools/lay-plain.mjs out of 'TrydShelf.lean', which tools/lay-shelf.mjs wrote): THE SAME DECLARATIONS UNDER THE SAME NAMES: 'import', 'namespace', 'open', 'def', 'theorem' AND NOTHING ELSE: no command of the shelf's: FOR A HAND-IN. Each laying: the table of numbers ('.._ren') and one theorem, a field a fact of the dump's own or the kernel's comparison; each contract: ONE APPLICATION. -/
import Derived.Shelf.Unicode.ValidAny
import Derived.Test.YtaokfhdinhimfaaDoorProg
namespace Go.Proofs
open Go.Shelf
def Tryd.a9m : Go.Shelf.Ren := ⟨fun | 196 => 66 | 259 => 72 | n => n, fun | 9 => 9 | 4 => 4 | 3 => 3 | 5 => 5 | 12 => 12 | 119 => 151 | 0 => 0 | 46 => 155 | 139 => 154 | 138 => 153 | 53 => 158 | n => n, fun | 3 => 0 | 4 => 1 | n => n⟩
theorem Tryd.b3N : Go.Proofs.Lays.n196 Tryd.prog Tryd.a9m := {
  mixed := by kernel_rfl
  f196 := Tryd.func66.trans (congrArg some (by kernel_rfl))
  f259 := Tryd.func72.trans (congrArg some (by kernel_rfl))
  t0 := Tryd.underlying0
  a0 := Tryd.isAgg0
  z0 := Tryd.sizeOf0
  v0 := Tryd.zeroValue0
  t3 := Tryd.underlying3
  a3 := Tryd.isAgg3
  z3 := Tryd.sizeOf3
  v3 := Tryd.zeroValue3
  t4 := Tryd.underlying4
  a4 := Tryd.isAgg4
  z4 := Tryd.sizeOf4
  v4 := Tryd.zeroValue4
  t5 := Tryd.underlying5
  a5 := Tryd.isAgg5
  z5 := Tryd.sizeOf5
  v5 := Tryd.zeroValue5
  t9 := Tryd.underlying9
  a9 := Tryd.isAgg9
  z9 := Tryd.sizeOf9
  v9 := Tryd.zeroValue9
  t12 := Tryd.underlying12
  a12 := Tryd.isAgg12
  z12 := Tryd.sizeOf12
  v12 := Tryd.zeroValue12
  t46 := Tryd.underlying155
  a46 := Tryd.isAgg155
  z46 := Tryd.sizeOf155
  v46 := Tryd.zeroValue155
  t53 := Tryd.underlying158
  a53 := Tryd.isAgg158
  z53 := Tryd.sizeOf158
  v53 := Tryd.zeroValue158
  t119 := Tryd.underlying151
  a119 := Tryd.isAgg151
  z119 := Tryd.sizeOf151
  t138 := Tryd.underlying153
  a138 := Tryd.isAgg153
  z138 := Tryd.sizeOf153
  v138 := Tryd.zeroValue153
  t139 := Tryd.underlying154
  a139 := Tryd.isAgg154
  z139 := Tryd.sizeOf154
  v139 := Tryd.zeroValue154
  g3 := by kernel_rfl
  g4 := by kernel_rfl }
end Go.Proofs
