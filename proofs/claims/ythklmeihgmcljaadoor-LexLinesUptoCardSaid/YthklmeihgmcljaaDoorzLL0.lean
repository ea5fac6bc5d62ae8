/- What the texts on strings stand on where no trees are at hand. -/
import Derived.Test.YthklmeihgmcljaaDoorzLB
import Derived.Test.YthklmeihgmcljaaDoorzLV1a
import Derived.Test.YthklmeihgmcljaaDoorzLV1b
import Derived.Test.YthklmeihgmcljaaDoorzLV1c
import Derived.Test.YthklmeihgmcljaaDoorzLV1d
namespace Go.Proofs.YthklmeihgmcljaaDoor
abbrev big : Nat := 1099511627776
end Go.Proofs.YthklmeihgmcljaaDoor
