/-
  All readings of part 1.
-/
import Derived.Test.YtgapepdglhcglaaG1a
import Derived.Test.YtgapepdglhcglaaG1b
namespace Go.Proofs.Ytgapepdglhcglaa
end Go.Proofs.Ytgapepdglhcglaa
