/- What the texts on strings stand on where no trees are at hand. -/
import Derived.Test.YthklmeihgmcljaaDoorzNB
import Derived.Test.YthklmeihgmcljaaDoorzNV1a
import Derived.Test.YthklmeihgmcljaaDoorzNV1b
import Derived.Test.YthklmeihgmcljaaDoorzNV1c
import Derived.Test.YthklmeihgmcljaaDoorzNV1d
namespace Go.Proofs.YthklmeihgmcljaaDoor
abbrev big : Nat := 1099511627776
end Go.Proofs.YthklmeihgmcljaaDoor
