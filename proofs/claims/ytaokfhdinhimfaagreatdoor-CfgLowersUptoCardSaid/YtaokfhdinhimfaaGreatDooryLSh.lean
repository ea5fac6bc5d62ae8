/- DERIVED: THE SHELF's CONTRACTS AT THIS DUMP, IN PLAIN WORDS (tools/lay-plain.mjs out of 'TryzShelf.lean', which tools/lay-shelf.mjs wrote): THE SAME DECLARATIONS UNDER THE SAME NAMES: 'import', 'namespace', 'open', 'def', 'theorem' AND NOTHING ELSE: no command of the shelf's: FOR A HAND-IN. Each laying: the table of numbers ('.._ren') and one theorem, a field a fact of the dump's own or the kernel's comparison; each contract: ONE APPLICATION. -/
import Derived.Shelf.Unicode.ValidAny
import Derived.Test.YtaokfhdinhimfaaGreatDoorProg
namespace Go.Proofs
open Go.Shelf
def Tryz.b5w:Go.Shelf.Ren:=⟨fun | 196=>130 | 259=>136 | n=>n,fun | 9=>9 | 4=>4 | 3=>3 | 5=>5 | 12=>12 | 119=>207 | 0=>0 | 46=>211 | 139=>210 | 138=>209 | 53=>213 | n=>n,fun | 3=>0 | 4=>1 | n=>n⟩
theorem Tryz.c1X:Go.Proofs.Lays.n196 Tryz.prog Tryz.b5w:={
 mixed:=by kernel_rfl
 f196:=Tryz.func130.trans (congrArg some (by kernel_rfl))
 f259:=Tryz.func136.trans (congrArg some (by kernel_rfl))
 t0:=Tryz.underlying0
 a0:=Tryz.isAgg0
 z0:=Tryz.sizeOf0
 v0:=Tryz.zeroValue0
 t3:=Tryz.underlying3
 a3:=Tryz.isAgg3
 z3:=Tryz.sizeOf3
 v3:=Tryz.zeroValue3
 t4:=Tryz.underlying4
 a4:=Tryz.isAgg4
 z4:=Tryz.sizeOf4
 v4:=Tryz.zeroValue4
 t5:=Tryz.underlying5
 a5:=Tryz.isAgg5
 z5:=Tryz.sizeOf5
 v5:=Tryz.zeroValue5
 t9:=Tryz.underlying9
 a9:=Tryz.isAgg9
 z9:=Tryz.sizeOf9
 v9:=Tryz.zeroValue9
 t12:=Tryz.underlying12
 a12:=Tryz.isAgg12
 z12:=Tryz.sizeOf12
 v12:=Tryz.zeroValue12
 t46:=Tryz.underlying211
 a46:=Tryz.isAgg211
 z46:=Tryz.sizeOf211
 v46:=Tryz.zeroValue211
 t53:=Tryz.underlying213
 a53:=Tryz.isAgg213
 z53:=Tryz.sizeOf213
 v53:=Tryz.zeroValue213
 t119:=Tryz.underlying207
 a119:=Tryz.isAgg207
 z119:=Tryz.sizeOf207
 t138:=Tryz.underlying209
 a138:=Tryz.isAgg209
 z138:=Tryz.sizeOf209
 v138:=Tryz.zeroValue209
 t139:=Tryz.underlying210
 a139:=Tryz.isAgg210
 z139:=Tryz.sizeOf210
 v139:=Tryz.zeroValue210
 g3:=by kernel_rfl
 g4:=by kernel_rfl }
end Go.Proofs
