/- What the texts on strings stand on where no trees are at hand. -/
import Derived.Test.YthklmeihgmcljaaDoorzWB
import Derived.Test.YthklmeihgmcljaaDoorzWV1a
import Derived.Test.YthklmeihgmcljaaDoorzWV1b
import Derived.Test.YthklmeihgmcljaaDoorzWV1c
import Derived.Test.YthklmeihgmcljaaDoorzWV1d
namespace Go.Proofs.YthklmeihgmcljaaDoor
abbrev big : Nat := 1099511627776
end Go.Proofs.YthklmeihgmcljaaDoor
