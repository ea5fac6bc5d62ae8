/- The second reading of some of the program's functions, printed by gen2.py off the code; each is held against the code by the kernel. -/
import Derived.Test.YthldnpmfelniiaaDoorProg
import Derived.Test.YthldnpmfelniiaaDoorzTK0
import Derived.KernelRfl
namespace Go.Proofs.YthldnpmfelniiaaDoor
open Go.RowKit
set_option maxRecDepth 100000
noncomputable def c4 : Code := Tryd.f4.body.getD .skip
def h4 : Hint := (.seq .none (.seq (.reg [(0, 32, 0), (1, 64, 32), (2, 128, 68), (6, 256, 192), (2, 512, 68), (26, 1024, 576), (42, 2048, 1344), (66, 4096, 2112), (160, 8192, 4096), (256, 16384, 8200), (768, 32768, 24576), (256, 65536, 8200), (3328, 131072, 73728), (5376, 262144, 172032), (8448, 524288, 270336), (32767, 16, 524288)] [0, 2580, 2576, 16, 2564, 0, 2580, 2580, 2580, 2068, 2048, 532, 0, 2580, 2580, 2580] (.step 0 (.early 1 (.load 2 (.load 4 (.step 3 (.step 5 (.early 6 (.early 7 (.early 8 (.load 9 (.load 11 (.step 10 (.step 12 (.early 13 (.early 14 (.early 15 .done))))))))))))))))) .none))
end Go.Proofs.YthldnpmfelniiaaDoor
