/- The second reading of some of the program's functions, printed by gen.py off the code; each is held against the code by the kernel. -/
import Derived.Test.YthklmeihgmcljaaGreatDoorProg
import Derived.KernelRfl
import Derived.Test.YthklmeihgmcljaaGreatDoorzQOEY
namespace Go.Proofs.YthklmeihgmcljaaGreatDoor.Od
open Go.RowKit
set_option maxRecDepth 100000
def b9T (w:World) (R:Value→World→Prop):Prop:=
 opK Tryz.prog (xV (Instr.alloc 28 true (.tuple #[]))) w fun d2I w_2=>
 opK Tryz.prog (xV (Instr.build 28 #[(0,(Value.int .i64 1)),(1,(Value.int .i64 1))])) w_2 fun d5J w_4=>
 opK Tryz.prog (xU (Instr.storeAt 28 d2I d5J)) w_4 fun _z_5 w_6=>
 xcell Tryz.prog 28 d2I w_6 fun r_7=>
 R r_7 w_6
noncomputable def d2J:Code:=Tryz.f129.body.getD .skip
def c2E:Hint:=(.seq .none (.seq .none .none))
set_option maxRecDepth 100000 in
theorem c8O (w:World) (R:Value→World→Prop):b9T  w R=callX Tryz.prog [.cell 0 28] d2J c2E [] w R:=by kernel_rfl
theorem c1x {w:World} {R:Value→World→Prop} (h:b9T  w R):Cv Tryz.prog 129 #[] w R:=
 a8b (args:=[]) (c:=d2J) (h:=c2E) Tryz.func129 (by kernel_rfl) (Nat.le_of_ble_eq_true (by kernel_rfl)) (by kernel_rfl) (by kernel_rfl) (by kernel_rfl) ((c8O  w R).mp h)
def b9V (x0 x1:Value) (w:World) (R:Value→World→Prop):Prop:=
 opK Tryz.prog (xV (Instr.box 28 x0)) w fun c5K w_2=>
 opK Tryz.prog (xV (Instr.alloc 28 true (.tuple #[]))) w_2 fun c2S w_4=>
 opK Tryz.prog (xBin .eql 21 (.tmp 5) (.const (Value.int .i32 10)) x1 (Value.int .i32 10)) w_4 fun d5K w_6=>
 xcond d5K
 (opK Tryz.prog (xV (Instr.fieldAt 28 c5K 0)) w_6 fun d5L w_8=>
 opK Tryz.prog (xV (Instr.loadAt 3 d5L)) w_8 fun d5M c0m=>
 opK Tryz.prog (xBin .add 3 (.tmp 8) (.const (Value.int .i64 1)) d5M (Value.int .i64 1)) c0m fun d3X c0n=>
 opK Tryz.prog (xV (Instr.build 28 #[(0,d3X),(1,(Value.int .i64 1))])) c0n fun d2K d5N=>
 opK Tryz.prog (xU (Instr.storeAt 28 c2S d2K)) d5N fun _z_15 d2L=>
 xcell Tryz.prog 28 c2S d2L fun d5O=>
 R d5O d2L)
 (opK Tryz.prog (xV (Instr.fieldAt 28 c5K 0)) w_6 fun d2M d5P=>
 opK Tryz.prog (xV (Instr.loadAt 3 d2M)) d5P fun d2N c2T=>
 opK Tryz.prog (xV (Instr.fieldAt 28 c5K 1)) c2T fun d2O d5Q=>
 opK Tryz.prog (xV (Instr.loadAt 3 d2O)) d5Q fun d2P c5L=>
 opK Tryz.prog (xBin .add 3 (.tmp 14) (.const (Value.int .i64 1)) d2P (Value.int .i64 1)) c5L fun c0o c5M=>
 opK Tryz.prog (xV (Instr.build 28 #[(0,d2N),(1,c0o)])) c5M fun d2Q c5N=>
 opK Tryz.prog (xU (Instr.storeAt 28 c2S d2Q)) c5N fun _z_30 d2R=>
 xcell Tryz.prog 28 c2S d2R fun d5R=>
 R d5R d2R)
noncomputable def d2S:Code:=Tryz.f150.body.getD .skip
def c2F:Hint:=(.seq .none (.seq (.seq .none (.cond (.seq .none .none) .none)) (.seq .none .none)))
set_option maxRecDepth 100000 in
theorem c8P (x0 x1:Value) (w:World) (R:Value→World→Prop):b9V x0 x1 w R=callX Tryz.prog [.cell 4 28] d2S c2F [x0,x1] w R:=by kernel_rfl
theorem c1C {x0 x1:Value} {w:World} {R:Value→World→Prop} (h:b9V x0 x1 w R):Cv Tryz.prog 150 #[x0,x1] w R:=
 a8b (args:=[x0,x1]) (c:=d2S) (h:=c2F) Tryz.func150 (by kernel_rfl) (Nat.le_of_ble_eq_true (by kernel_rfl)) (by kernel_rfl) (by kernel_rfl) (by kernel_rfl) ((c8P x0 x1 w R).mp h)
end Go.Proofs.YthklmeihgmcljaaGreatDoor.Od
namespace Go.Proofs.YthklmeihgmcljaaGreatDoor.Od
open Go.RowKit
set_option maxRecDepth 100000
theorem a9b {w:World} {K:Value→World→Prop}:opK Tryz.prog (xV (Instr.alloc 28 true (.tuple #[]))) w K=K (.pointer (some ⟨w.heap.size,0,none⟩)) (w.alloc (.cells #[(Value.int .i64 0),(Value.int .i64 0)] 28)):=c4B Tryz.zeroValue28
theorem a9J (x0:Int) (x1:Int) {w:World} {K:Value→World→Prop}:opK Tryz.prog (xV (Instr.build 28 #[(0,(.int .i64 x0)),(1,(.int .i64 x1))])) w K=K (.agg #[(.int .i64 x0),(.int .i64 x1)]) w:=a3Q (by kernel_rfl)
theorem a3f {g o:Nat} {v:Value} {w:World} {K:Value→World→Prop} (hn:v.cells.size=2) (h:stH (w.heap[g]?) o v.cells.toList fun cs=>K undef (w.setRow g cs)):opK Tryz.prog (xU (Instr.storeAt 28 (.pointer (some ⟨g,o,none⟩)) v)) w K:=c4A Tryz.sizeOf28 hn h
theorem b7T {g o:Nat} {w:World} {K:Value→World→Prop}:opK Tryz.prog (xV (Instr.fieldAt 28 (.pointer (some ⟨g,o,none⟩)) 0)) w K=K (.pointer (some ⟨g,o,none⟩)) w:=a3Q (by kernel_rfl)
theorem a9K {g o:Nat} {w:World} {K:Value→World→Prop} (h:ldH (w.heap[g]?) o 1 fun l=>K (nth l 0) w):opK Tryz.prog (xV (Instr.loadAt 3 (.pointer (some ⟨g,o,none⟩)))) w K:=b7S Tryz.isAgg3 h
theorem c4K {g o:Nat} {w:World} {K:Value→World→Prop}:opK Tryz.prog (xV (Instr.fieldAt 28 (.pointer (some ⟨g,o,none⟩)) 1)) w K=K (.pointer (some ⟨g,o+1,none⟩)) w:=a3Q (by kernel_rfl)
theorem b1V {g o:Nat} {w:World} {K:Value→Prop} (h:ldH (w.heap[g]?) o 2 fun l=>K (.agg l.toArray)):xcell Tryz.prog 28 (.pointer (some ⟨g,o,none⟩)) w K:=xcellA Tryz.isAgg28 Tryz.sizeOf28 h
end Go.Proofs.YthklmeihgmcljaaGreatDoor.Od
namespace Go.Proofs.YthklmeihgmcljaaGreatDoor.Od
open Go.RowKit
set_option maxRecDepth 100000
def b6f (x4 x5:Value) (ds:List Nat) (w:World) (R:Value→World→Prop):Prop:=
 opK Tryz.prog (xV (Instr.loadAt 28 x5)) w fun d2T d5S=>
 opK Tryz.prog (xU (Instr.storeAt 28 x4 d2T)) d5S fun _z_19 c5O=>
 closeM ds c5O fun c2T=>xcell Tryz.prog 28 x4 c2T fun d5T=>
 R d5T c2T
def F98 (x0 x1:Value) (w:World) (R:Value→World→Prop):Prop:=
 opK Tryz.prog (xV (Instr.box 3 x1)) w fun d5U w_3=>
 opK Tryz.prog (xV (Instr.alloc 28 true (.tuple #[]))) w_3 fun c5P w_5=>
 opK Tryz.prog (xCall (Value.func (.func 129) #[] #[]) []) w_5 fun d5V w_8=>
 opK Tryz.prog (xV (Instr.alloc 28 true (.tuple #[]))) w_8 fun c2U c0m=>
 opK Tryz.prog (xU (Instr.storeAt 28 c2U d5V)) c0m fun _z_11 c0n=>
 opK Tryz.prog (xCall (Value.func (.func 130) #[] #[]) [x0]) c0n fun d2U b5E=>
 xrange Tryz.prog d2U 2 b5E (fun d2V c6V d5W d2W=>
 opK Tryz.prog (xV (Instr.alloc 28 true (.tuple #[]))) d5W fun c6W d5X=>
 opK Tryz.prog (xU (Instr.storeAt 28 c6W (nth c6V 1))) d5X fun _z_31 c5Q=>
 beginY (b5E.heap.size+1) d2V c5Q fun d5Y=>
 opK Tryz.prog (xV (Instr.loadAt 3 d5U)) d5Y fun d2X c2V=>
 opK Tryz.prog (xBin .geq 3 (.tmp 13) (.tmp 14) (nth c6V 0) d2X) c2V fun d2Y c2W=>
 xcond d2Y
 (d2W (.exit 0) c2W)
 (opK Tryz.prog (xV (Instr.loadAt 28 c6W)) c2W fun d2Z d5Z=>
 opK Tryz.prog (xU (Instr.storeAt 28 c2U d2Z)) d5Z fun _z_42 d6a=>
 d2W .normal d6a))
 (fun d6b=>b6f c5P c2U (b5E.heap.size::[]) d6b R) (fun d6c=>closeM (b5E.heap.size::[]) d6c fun d3a=>xcell Tryz.prog 28 c5P d3a fun d6d=>
 R d6d d3a) (fun d3Y d6e=>(bif Nat.beq d3Y 0 then b6f c5P c2U (b5E.heap.size::[]) d6e R else False))
noncomputable def c98:Code:=Tryz.f98.body.getD .skip
def h98:HintY:=(.seq .none (.seq .none (.seq (.seq .none (.block (.range (.seq .none .none) (.block (.seq (.seq .none (.cond .none .none)) .none))))) (.seq .none .none))))
set_option maxRecDepth 100000 in
theorem d3b (x0 x1:Value) (w:World) (R:Value→World→Prop):F98 x0 x1 w R=callY Tryz.prog [.cell 4 28] c98 h98 [x0,x1] w R:=by kernel_rfl
theorem d3c {x0 x1:Value} {w:World} {R:Value→World→Prop} (h:F98 x0 x1 w R):Cv Tryz.prog 98 #[x0,x1] w R:=
 b5q (args:=[x0,x1]) (c:=c98) (h:=h98) Tryz.func98 (by kernel_rfl) (Nat.le_of_ble_eq_true (by kernel_rfl)) (by kernel_rfl) (by kernel_rfl) (by kernel_rfl) ((d3b x0 x1 w R).mp h)
def c5R (x0:Value) (w:World) (R:Value→World→Prop):Prop:=
 opK Tryz.prog (xV (Instr.box 9 x0)) w fun d6f w_2=>
 opK Tryz.prog (xV (Instr.makeFunc (.func 149) #[] #[d6f])) w_2 fun d6g w_4=>
 R d6g w_4
noncomputable def d3d:Code:=Tryz.f130.body.getD .skip
def d3e:Hint:=(.seq .none (.seq .none .none))
set_option maxRecDepth 100000 in
theorem c8Q (x0:Value) (w:World) (R:Value→World→Prop):c5R x0 w R=callX Tryz.prog [.tmp 2] d3d d3e [x0] w R:=by kernel_rfl
theorem c8R {x0:Value} {w:World} {R:Value→World→Prop} (h:c5R x0 w R):Cv Tryz.prog 130 #[x0] w R:=
 a8b (args:=[x0]) (c:=d3d) (h:=d3e) Tryz.func130 (by kernel_rfl) (Nat.le_of_ble_eq_true (by kernel_rfl)) (by kernel_rfl) (by kernel_rfl) (by kernel_rfl) ((c8Q x0 w R).mp h)
def c2d (x0 x3 x8:Value) (w:World) (next1:List Value→World→Prop) (R:Value→World→Prop):Prop:=
 opK Tryz.prog (xV (Instr.next x8 true 0)) w fun c2X b5E=>
 opK Tryz.prog (xV (Instr.extract c2X 0)) b5E fun d3f d3g=>
 xcond d3f
 (opK Tryz.prog (xV (Instr.extract c2X 1)) d3g fun d3h c5O=>
 opK Tryz.prog (xV (Instr.extract c2X 2)) c5O fun d3i d6h=>
 opK Tryz.prog (xV (Instr.loadAt 28 x3)) d6h fun d3j c5L=>
 opK Tryz.prog (xCall (Value.func (.func 150) #[] #[]) [d3j,d3i]) c5L fun c0o c5M=>
 opK Tryz.prog (xU (Instr.storeAt 28 x3 c0o)) c5M fun _z_28 c5N=>
 opK Tryz.prog (xV (Instr.loadAt 28 x3)) c5N fun d3k c5Q=>
 opY Tryz.prog (xCall x0 [d3h,d3k]) c5Q fun d3l d6i=>
 opK Tryz.prog (xV (Op.unary .not d3l)) d6i fun d3m c2V=>
 xcond d3m
 (R (Value.tuple #[]) c2V)
 ((([]:List Nat)=[]∧next1 [] c2V)))
 (R (Value.tuple #[]) d3g)
def c5S (x0 x1:Value) (w:World) (R:Value→World→Prop):Prop:=
 opK Tryz.prog (xCall (Value.func (.func 129) #[] #[]) []) w fun d6j w_3=>
 opK Tryz.prog (xV (Instr.alloc 28 true (.tuple #[]))) w_3 fun d3n w_5=>
 opK Tryz.prog (xU (Instr.storeAt 28 d3n d6j)) w_5 fun _z_6 w_7=>
 opK Tryz.prog (xV (Instr.loadAt 9 x1)) w_7 fun d6k c0m=>
 opK Tryz.prog (xV (Instr.range 9 d6k)) c0m fun d3Z c0n=>
 xloop [] [] c0n fun _ c2W next1=>
 c2d x0 d3n d3Z c2W next1 R
noncomputable def d3o:Code:=Tryz.f149.body.getD .skip
def d3p:HintY:=(.seq .none (.seq .none (.block (.loop [] (.seq .none (.seq (.cond .none .none) (.block (.seq .none (.seq .none (.seq .none (.cond .none .none)))))))))))
set_option maxRecDepth 100000 in
theorem c8S (x0 x1:Value) (w:World) (R:Value→World→Prop):c5S x0 x1 w R=callY Tryz.prog [] d3o d3p [x0,x1] w R:=by kernel_rfl
theorem c8T {x0 x1:Value} {w:World} {R:Value→World→Prop} (h:c5S x0 x1 w R):Cv Tryz.prog 149 #[x0,x1] w R:=
 b5q (args:=[x0,x1]) (c:=d3o) (h:=d3p) Tryz.func149 (by kernel_rfl) (Nat.le_of_ble_eq_true (by kernel_rfl)) (by kernel_rfl) (by kernel_rfl) (by kernel_rfl) ((c8S x0 x1 w R).mp h)
end Go.Proofs.YthklmeihgmcljaaGreatDoor.Od
namespace Go.Proofs.YthklmeihgmcljaaGreatDoor.Od
open Go.RowKit
set_option maxRecDepth 100000
theorem b6g {args:List Value} {w:World} {K:Value→World→Prop} (h:Cv Tryz.prog 129 args.toArray w K):opK Tryz.prog (xCall (.func (.func 129) #[] #[]) args) w K:=a1z (fun args w=>Tryz.call129 args w) (by simpa using h)
theorem c2Y {args:List Value} {w:World} {K:Value→World→Prop} (h:Cv Tryz.prog 130 args.toArray w K):opK Tryz.prog (xCall (.func (.func 130) #[] #[]) args) w K:=a1z (fun args w=>Tryz.call130 args w) (by simpa using h)
theorem a6e {g o:Nat} {w:World} {K:Value→World→Prop} (h:ldH (w.heap[g]?) o 2 fun l=>K (.agg l.toArray) w):opK Tryz.prog (xV (Instr.loadAt 28 (.pointer (some ⟨g,o,none⟩)))) w K:=c4z Tryz.isAgg28 Tryz.sizeOf28 h
theorem c5T {g o:Nat} {w:World} {K:Value→World→Prop} (h:ldH (w.heap[g]?) o 1 fun l=>K (nth l 0) w):opK Tryz.prog (xV (Instr.loadAt 9 (.pointer (some ⟨g,o,none⟩)))) w K:=b7S Tryz.isAgg9 h
theorem c4L (s:ByteArray) {w:World} {K:Value→World→Prop}:opK Tryz.prog (xV (Instr.range 9 (.string s))) w K=K (.pointer (some ⟨w.heap.size,0,none⟩)) (w.alloc (.stringIter s 0)):=b8t Tryz.underlying9 s
theorem c2Z {args:List Value} {w:World} {K:Value→World→Prop} (h:Cv Tryz.prog 150 args.toArray w K):opK Tryz.prog (xCall (.func (.func 150) #[] #[]) args) w K:=a1z (fun args w=>Tryz.call150 args w) (by simpa using h)
end Go.Proofs.YthklmeihgmcljaaGreatDoor.Od
