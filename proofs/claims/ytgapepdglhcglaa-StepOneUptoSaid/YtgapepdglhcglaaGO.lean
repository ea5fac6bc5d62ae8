/-
  What the readings stand on.
-/
import Derived.Test.YtgapepdglhcglaaProg
import Derived.Test.YtgapepdglhcglaaK0
import Derived.KernelRfl
namespace Go.Proofs.Ytgapepdglhcglaa
open Go.RowKit
end Go.Proofs.Ytgapepdglhcglaa
