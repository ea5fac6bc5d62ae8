/- DERIVED: THE SHELF's CONTRACTS AT THIS DUMP, IN PLAIN WORDS (tools/lay-plain.mjs out of 'TrydShelf.lean', which tools/lay-shelf.mjs wrote): THE SAME DECLARATIONS UNDER THE SAME NAMES: 'import', 'namespace', 'open', 'def', 'theorem' AND NOTHING ELSE: no command of the shelf's: FOR A HAND-IN. Each laying: the table of numbers ('.._ren') and one theorem, a field a fact of the dump's own or the kernel's comparison; each contract: ONE APPLICATION. -/
import Derived.Shelf.Unicode.ValidAny
import Derived.Test.YtpgelfheccpejaaDoorProg
namespace Go.Proofs
open Go.Shelf
def Tryd.a8B:Go.Shelf.Ren:=⟨fun | 196=>66 | 259=>72 | n=>n,fun | 9=>9 | 4=>4 | 3=>3 | 5=>5 | 12=>12 | 119=>119 | 0=>0 | 46=>123 | 139=>122 | 138=>121 | 53=>126 | n=>n,fun | 3=>0 | 4=>1 | n=>n⟩
theorem Tryd.b2Z:Go.Proofs.Lays.n196 Tryd.prog Tryd.a8B:={
 mixed:=by kernel_rfl
 f196:=Tryd.func66.trans (congrArg some (by kernel_rfl))
 f259:=Tryd.func72.trans (congrArg some (by kernel_rfl))
 t0:=Tryd.underlying0
 a0:=Tryd.isAgg0
 z0:=Tryd.sizeOf0
 v0:=Tryd.zeroValue0
 t3:=Tryd.underlying3
 a3:=Tryd.isAgg3
 z3:=Tryd.sizeOf3
 v3:=Tryd.zeroValue3
 t4:=Tryd.underlying4
 a4:=Tryd.isAgg4
 z4:=Tryd.sizeOf4
 v4:=Tryd.zeroValue4
 t5:=Tryd.underlying5
 a5:=Tryd.isAgg5
 z5:=Tryd.sizeOf5
 v5:=Tryd.zeroValue5
 t9:=Tryd.underlying9
 a9:=Tryd.isAgg9
 z9:=Tryd.sizeOf9
 v9:=Tryd.zeroValue9
 t12:=Tryd.underlying12
 a12:=Tryd.isAgg12
 z12:=Tryd.sizeOf12
 v12:=Tryd.zeroValue12
 t46:=Tryd.underlying123
 a46:=Tryd.isAgg123
 z46:=Tryd.sizeOf123
 v46:=Tryd.zeroValue123
 t53:=Tryd.underlying126
 a53:=Tryd.isAgg126
 z53:=Tryd.sizeOf126
 v53:=Tryd.zeroValue126
 t119:=Tryd.underlying119
 a119:=Tryd.isAgg119
 z119:=Tryd.sizeOf119
 t138:=Tryd.underlying121
 a138:=Tryd.isAgg121
 z138:=Tryd.sizeOf121
 v138:=Tryd.zeroValue121
 t139:=Tryd.underlying122
 a139:=Tryd.isAgg122
 z139:=Tryd.sizeOf122
 v139:=Tryd.zeroValue122
 g3:=by kernel_rfl
 g4:=by kernel_rfl }
end Go.Proofs
