/- The arguments of the trees' laws, opened: expressions, conditions, statements, programs. -/
import Derived.Test.YthldnpmfelniiaaDoorzSO
import Derived.Test.YthldnpmfelniiaaDoorzSQ5
namespace Go.Proofs.YthldnpmfelniiaaDoor
open Go.RowKit Go.ChangeShapes
set_option maxRecDepth 100000
section
variable {Hd : Type} {enc : TypeId × Value → Hd} {P : Program} {W : World}
end
section
variable {Hd : Type} {enc : TypeId × Value → Hd} {W : World}
theorem i3 : Tryd.prog.underlying 3 = some (.int .i64) := Tryd.underlying3
end
end Go.Proofs.YthldnpmfelniiaaDoor
