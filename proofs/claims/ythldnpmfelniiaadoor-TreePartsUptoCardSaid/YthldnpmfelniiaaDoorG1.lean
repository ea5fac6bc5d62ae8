/-
  All readings of part 1.
-/
import Derived.Test.YthldnpmfelniiaaDoorG1a
import Derived.Test.YthldnpmfelniiaaDoorG1b
namespace Go.Proofs.YthldnpmfelniiaaDoor
end Go.Proofs.YthldnpmfelniiaaDoor
