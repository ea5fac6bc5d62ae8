/- The second reading of some of the program's functions, printed by gen2.py off the code; each is held against the code by the kernel. -/
import Derived.Test.YthldnpmfelniiaaDoorProg
import Derived.Test.YthldnpmfelniiaaDoorzVK0
import Derived.KernelRfl
namespace Go.Proofs.YthldnpmfelniiaaDoor
open Go.RowKit
set_option maxRecDepth 100000
def F4 (x0 x1 : Value) (w : World) (R : Value → World → Prop) (E : Pan) : Prop :=
 opK Tryd.prog E (xV (Instr.box 30 x0)) w fun a4J w_2 =>
 opK Tryd.prog E (xV (Instr.box 33 x1)) w_2 fun T7 w_4 =>
 dX w_4 fun w_5 =>
 opK Tryd.prog E (xCall (Value.func (.func 14) #[] #[]) []) w_5 fun a7Q w_7 =>
 keepX [] w_5 w_7 (qL Tryd.prog w_7 (blk a4J) (gsem (asB a7Q) true (xV (Instr.loadAt 30 a4J))) fun c2Z =>
 qL Tryd.prog w_7 (blk a4J) (gsem (asB a7Q) true (xV (Instr.loadAt 30 a4J))) fun a7y =>
 opK Tryd.prog E (gsem (asB a7Q) true (xCall (Value.func (.func 17) #[] #[]) [c2Z])) w_7 fun b6t O8 =>
 keepX [(blk a4J)] w_7 O8 (opK Tryd.prog E (gsem (asB a7Q) true (xCall (Value.func (.func 18) #[] #[]) [a7y])) O8 fun b4d a0z =>
 keepX [] O8 a0z (qP Tryd.prog (gsem (asB a7Q) true (xBin .eql 3 (.tmp 8) (.tmp 10) b6t b4d)) fun b4e =>
 qP Tryd.prog (xPick a7Q b4e (Value.bool false)) fun a0j =>
 qL Tryd.prog a0z (blk T7) (gsem (asB a0j) true (xV (Instr.loadAt 33 T7))) fun d3b =>
 qL Tryd.prog a0z (blk T7) (gsem (asB a0j) true (xV (Instr.loadAt 33 T7))) fun d3c =>
 opK Tryd.prog E (gsem (asB a0j) true (xCall (Value.func (.func 19) #[] #[]) [d3b])) a0z fun d3d a2A =>
 keepX [(blk T7)] a0z a2A (opK Tryd.prog E (gsem (asB a0j) true (xCall (Value.func (.func 20) #[] #[]) [d3c])) a2A fun d3e a4c =>
 keepX [] a2A a4c (qP Tryd.prog (gsem (asB a0j) true (xBin .eql 3 (.tmp 15) (.tmp 17) d3d d3e)) fun b4g =>
 qP Tryd.prog (xPick a0j b4g (Value.bool false)) fun b4L =>
 R b4L a4c)))))
noncomputable def c4 : Code := Tryd.f4.body.getD .skip
def h4 : Hint := (.seq .none (.seq (.reg [(0, 32, 0), (1, 64, 32), (2, 128, 68), (6, 256, 192), (2, 512, 68), (26, 1024, 576), (42, 2048, 1344), (66, 4096, 2112), (160, 8192, 4096), (256, 16384, 8200), (768, 32768, 24576), (256, 65536, 8200), (3328, 131072, 73728), (5376, 262144, 172032), (8448, 524288, 270336), (32767, 16, 524288)] [0, 2580, 2576, 16, 2564, 0, 2580, 2580, 2580, 2068, 2048, 532, 0, 2580, 2580, 2580] (.step 0 (.early 1 (.load 2 (.load 4 (.step 3 (.step 5 (.early 6 (.early 7 (.early 8 (.load 9 (.load 11 (.step 10 (.step 12 (.early 13 (.early 14 (.early 15 .done))))))))))))))))) .none))
end Go.Proofs.YthldnpmfelniiaaDoor
