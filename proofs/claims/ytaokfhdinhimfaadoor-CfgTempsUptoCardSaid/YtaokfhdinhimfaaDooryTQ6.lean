/- Whether two programs are the same, by the program and by the document; what is known; the law. Contracts off the printed formulas. -/
import Derived.Test.YtaokfhdinhimfaaDooryTQ5
namespace Go.Proofs.YtaokfhdinhimfaaDoor
open Go.RowKit
set_option maxRecDepth 100000
set_option maxHeartbeats 2000000
section
variable {H : Hp}
def xS : ByteArray := ⟨#[120]⟩
end
end Go.Proofs.YtaokfhdinhimfaaDoor
