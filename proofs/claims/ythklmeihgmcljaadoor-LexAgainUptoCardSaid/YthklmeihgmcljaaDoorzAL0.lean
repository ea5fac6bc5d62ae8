/- What the texts on strings stand on where no trees are at hand. -/
import Derived.Test.YthklmeihgmcljaaDoorzAB
import Derived.Test.YthklmeihgmcljaaDoorzAV1a
import Derived.Test.YthklmeihgmcljaaDoorzAV1b
import Derived.Test.YthklmeihgmcljaaDoorzAV1c
import Derived.Test.YthklmeihgmcljaaDoorzAV1d
namespace Go.Proofs.YthklmeihgmcljaaDoor
abbrev big : Nat := 1099511627776
end Go.Proofs.YthklmeihgmcljaaDoor
