/- What the texts on strings stand on where no trees are at hand. -/
import Derived.Test.YthklmeihgmcljaaDoorzTB
import Derived.Test.YthklmeihgmcljaaDoorzTV1a
import Derived.Test.YthklmeihgmcljaaDoorzTV1b
import Derived.Test.YthklmeihgmcljaaDoorzTV1c
import Derived.Test.YthklmeihgmcljaaDoorzTV1d
namespace Go.Proofs.YthklmeihgmcljaaDoor
abbrev big : Nat := 1099511627776
end Go.Proofs.YthklmeihgmcljaaDoor
