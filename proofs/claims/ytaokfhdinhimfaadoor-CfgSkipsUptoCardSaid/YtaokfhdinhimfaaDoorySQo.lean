/- The arguments of the trees' laws, opened: expressions, conditions, statements, programs. -/
import Derived.Test.YtaokfhdinhimfaaDoorySO
import Derived.Test.YtaokfhdinhimfaaDoorySQ5
namespace Go.Proofs.YtaokfhdinhimfaaDoor
open Go.RowKit Go.ChangeShapes
set_option maxRecDepth 100000
section
variable {Hd : Type} {enc : TypeId × Value → Hd} {P : Program} {W : World}
end
section
variable {Hd : Type} {enc : TypeId × Value → Hd} {W : World}
theorem i3 : Tryd.prog.underlying 3 = some (.int .i64) := Tryd.underlying3
theorem i2 : Tryd.prog.underlying 2 = some (.int .i64) := Tryd.underlying2
end
end Go.Proofs.YtaokfhdinhimfaaDoor
