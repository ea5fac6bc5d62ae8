/- The second reading of some of the program's functions, printed by gen.py off the code; each is held against the code by the kernel. -/
import Derived.Test.YthklmeihgmcljaaGreatDoorProg
import Derived.KernelRfl
import Derived.Test.YthklmeihgmcljaaGreatDoorzEOEY
namespace Go.Proofs.YthklmeihgmcljaaGreatDoor.Od
open Go.RowKit
set_option maxRecDepth 100000
def c0l(w:World)(R:Value→World→Prop):Prop:=
 opK Tryz.prog (xV (Instr.alloc 28 true (.tuple #[]))) w fun d4y w_2=>
 opK Tryz.prog (xV (Instr.build 28 #[(0,(Value.int .i64 1)),(1,(Value.int .i64 1))])) w_2 fun d8U w_4=>
 opK Tryz.prog (xU (Instr.storeAt 28 d4y d8U)) w_4 fun _z_5 w_6=>
 xcell Tryz.prog 28 d4y w_6 fun r_7=>
 R r_7 w_6
noncomputable def d4z:Code:=Tryz.f129.body.getD .skip
def c3y:Hint:=(.seq .none (.seq .none .none))
set_option maxRecDepth 100000 in
theorem d0M(w:World)(R:Value→World→Prop):c0l  w R=callX Tryz.prog [.cell 0 28] d4z c3y [] w R:=by kernel_rfl
theorem c2f{w:World}{R:Value→World→Prop}(h:c0l  w R):Cv Tryz.prog 129 #[] w R:=
 a8I (args:=[]) (c:=d4z) (h:=c3y) Tryz.func129 (by kernel_rfl) (Nat.le_of_ble_eq_true (by kernel_rfl)) (by kernel_rfl) (by kernel_rfl) (by kernel_rfl) ((d0M  w R).mp h)
def c0n(x0 x1:Value)(w:World)(R:Value→World→Prop):Prop:=
 opK Tryz.prog (xV (Instr.box 28 x0)) w fun c7s w_2=>
 opK Tryz.prog (xV (Instr.alloc 28 true (.tuple #[]))) w_2 fun c3M w_4=>
 opK Tryz.prog (xBin .eql 21 (.tmp 5) (.const (Value.int .i32 10)) x1 (Value.int .i32 10)) w_4 fun d8V w_6=>
 xcond d8V
 (opK Tryz.prog (xV (Instr.fieldAt 28 c7s 0)) w_6 fun d8W w_8=>
 opK Tryz.prog (xV (Instr.loadAt 3 d8W)) w_8 fun d8X c0H=>
 opK Tryz.prog (xBin .add 3 (.tmp 8) (.const (Value.int .i64 1)) d8X (Value.int .i64 1)) c0H fun d5N c0I=>
 opK Tryz.prog (xV (Instr.build 28 #[(0,d5N),(1,(Value.int .i64 1))])) c0I fun d4A d8Y=>
 opK Tryz.prog (xU (Instr.storeAt 28 c3M d4A)) d8Y fun _z_15 d4B=>
 xcell Tryz.prog 28 c3M d4B fun d8Z=>
 R d8Z d4B)
 (opK Tryz.prog (xV (Instr.fieldAt 28 c7s 0)) w_6 fun d4C d9a=>
 opK Tryz.prog (xV (Instr.loadAt 3 d4C)) d9a fun d4D c3N=>
 opK Tryz.prog (xV (Instr.fieldAt 28 c7s 1)) c3N fun d4E d9b=>
 opK Tryz.prog (xV (Instr.loadAt 3 d4E)) d9b fun d4F c7t=>
 opK Tryz.prog (xBin .add 3 (.tmp 14) (.const (Value.int .i64 1)) d4F (Value.int .i64 1)) c7t fun c0J c7u=>
 opK Tryz.prog (xV (Instr.build 28 #[(0,d4D),(1,c0J)])) c7u fun d4G c7v=>
 opK Tryz.prog (xU (Instr.storeAt 28 c3M d4G)) c7v fun _z_30 d4H=>
 xcell Tryz.prog 28 c3M d4H fun d9c=>
 R d9c d4H)
noncomputable def d4I:Code:=Tryz.f150.body.getD .skip
def c3z:Hint:=(.seq .none (.seq (.seq .none (.cond (.seq .none .none) .none)) (.seq .none .none)))
set_option maxRecDepth 100000 in
theorem d0N(x0 x1:Value)(w:World)(R:Value→World→Prop):c0n x0 x1 w R=callX Tryz.prog [.cell 4 28] d4I c3z [x0,x1] w R:=by kernel_rfl
theorem c2p{x0 x1:Value}{w:World}{R:Value→World→Prop}(h:c0n x0 x1 w R):Cv Tryz.prog 150 #[x0,x1] w R:=
 a8I (args:=[x0,x1]) (c:=d4I) (h:=c3z) Tryz.func150 (by kernel_rfl) (Nat.le_of_ble_eq_true (by kernel_rfl)) (by kernel_rfl) (by kernel_rfl) (by kernel_rfl) ((d0N x0 x1 w R).mp h)
end Go.Proofs.YthklmeihgmcljaaGreatDoor.Od
namespace Go.Proofs.YthklmeihgmcljaaGreatDoor.Od
open Go.RowKit
set_option maxRecDepth 100000
theorem b0s{w:World}{K:Value→World→Prop}:opK Tryz.prog (xV (Instr.alloc 28 true (.tuple #[]))) w K=K (.pointer (some ⟨w.heap.size,0,none⟩)) (w.alloc (.cells #[(Value.int .i64 0),(Value.int .i64 0)] 28)):=c6e Tryz.zeroValue28
theorem b1j(x0:Int)(x1:Int){w:World}{K:Value→World→Prop}:opK Tryz.prog (xV (Instr.build 28 #[(0,(.int .i64 x0)),(1,(.int .i64 x1))])) w K=K (.agg #[(.int .i64 x0),(.int .i64 x1)]) w:=a3H (by kernel_rfl)
theorem a2V{g o:Nat}{v:Value}{w:World}{K:Value→World→Prop}(hn:v.cells.size=2)(h:stH (w.heap[g]?) o v.cells.toList fun cs=>K undef (w.setRow g cs)):opK Tryz.prog (xU (Instr.storeAt 28 (.pointer (some ⟨g,o,none⟩)) v)) w K:=c6d Tryz.sizeOf28 hn h
theorem b8X{g o:Nat}{w:World}{K:Value→World→Prop}:opK Tryz.prog (xV (Instr.fieldAt 28 (.pointer (some ⟨g,o,none⟩)) 0)) w K=K (.pointer (some ⟨g,o,none⟩)) w:=a3H (by kernel_rfl)
theorem b1k{g o:Nat}{w:World}{K:Value→World→Prop}(h:ldH (w.heap[g]?) o 1 fun l=>K (nth l 0) w):opK Tryz.prog (xV (Instr.loadAt 3 (.pointer (some ⟨g,o,none⟩)))) w K:=b8W Tryz.isAgg3 h
theorem c6n{g o:Nat}{w:World}{K:Value→World→Prop}:opK Tryz.prog (xV (Instr.fieldAt 28 (.pointer (some ⟨g,o,none⟩)) 1)) w K=K (.pointer (some ⟨g,o+1,none⟩)) w:=a3H (by kernel_rfl)
theorem b3T{g o:Nat}{w:World}{K:Value→Prop}(h:ldH (w.heap[g]?) o 2 fun l=>K (.agg l.toArray)):xcell Tryz.prog 28 (.pointer (some ⟨g,o,none⟩)) w K:=xcellA Tryz.isAgg28 Tryz.sizeOf28 h
end Go.Proofs.YthklmeihgmcljaaGreatDoor.Od
namespace Go.Proofs.YthklmeihgmcljaaGreatDoor.Od
open Go.RowKit
set_option maxRecDepth 100000
def b7Q(x4 x5:Value)(ds:List Nat)(w:World)(R:Value→World→Prop):Prop:=
 opK Tryz.prog (xV (Instr.loadAt 28 x5)) w fun d4J d9d=>
 opK Tryz.prog (xU (Instr.storeAt 28 x4 d4J)) d9d fun _z_19 c7w=>
 closeM ds c7w fun c3N=>xcell Tryz.prog 28 x4 c3N fun d9e=>
 R d9e c3N
def F98(x0 x1:Value)(w:World)(R:Value→World→Prop):Prop:=
 opK Tryz.prog (xV (Instr.box 3 x1)) w fun d9f w_3=>
 opK Tryz.prog (xV (Instr.alloc 28 true (.tuple #[]))) w_3 fun c7x w_5=>
 opK Tryz.prog (xCall (Value.func (.func 129) #[] #[]) []) w_5 fun d9g w_8=>
 opK Tryz.prog (xV (Instr.alloc 28 true (.tuple #[]))) w_8 fun c3O c0H=>
 opK Tryz.prog (xU (Instr.storeAt 28 c3O d9g)) c0H fun _z_11 c0I=>
 opK Tryz.prog (xCall (Value.func (.func 130) #[] #[]) [x0]) c0I fun d4K b7i=>
 xrange Tryz.prog d4K 2 b7i (fun d4L c8D d9h d4M=>
 opK Tryz.prog (xV (Instr.alloc 28 true (.tuple #[]))) d9h fun c8E d9i=>
 opK Tryz.prog (xU (Instr.storeAt 28 c8E (nth c8D 1))) d9i fun _z_31 c7y=>
 beginY (b7i.heap.size+1) d4L c7y fun d9j=>
 opK Tryz.prog (xV (Instr.loadAt 3 d9f)) d9j fun d4N c3P=>
 opK Tryz.prog (xBin .geq 3 (.tmp 13) (.tmp 14) (nth c8D 0) d4N) c3P fun d4O c3Q=>
 xcond d4O
 (d4M (.exit 0) c3Q)
 (opK Tryz.prog (xV (Instr.loadAt 28 c8E)) c3Q fun d4P d9k=>
 opK Tryz.prog (xU (Instr.storeAt 28 c3O d4P)) d9k fun _z_42 d9l=>
 d4M .normal d9l))
 (fun d9m=>b7Q c7x c3O (b7i.heap.size::[]) d9m R) (fun d9n=>closeM (b7i.heap.size::[]) d9n fun d4Q=>xcell Tryz.prog 28 c7x d4Q fun d9o=>
 R d9o d4Q) (fun d5O d9p=>(bif Nat.beq d5O 0 then b7Q c7x c3O (b7i.heap.size::[]) d9p R else False))
noncomputable def c98:Code:=Tryz.f98.body.getD .skip
def h98:HintY:=(.seq .none (.seq .none (.seq (.seq .none (.block (.range (.seq .none .none) (.block (.seq (.seq .none (.cond .none .none)) .none))))) (.seq .none .none))))
set_option maxRecDepth 100000 in
theorem d4R(x0 x1:Value)(w:World)(R:Value→World→Prop):F98 x0 x1 w R=callY Tryz.prog [.cell 4 28] c98 h98 [x0,x1] w R:=by kernel_rfl
theorem d4S{x0 x1:Value}{w:World}{R:Value→World→Prop}(h:F98 x0 x1 w R):Cv Tryz.prog 98 #[x0,x1] w R:=
 b6Y (args:=[x0,x1]) (c:=c98) (h:=h98) Tryz.func98 (by kernel_rfl) (Nat.le_of_ble_eq_true (by kernel_rfl)) (by kernel_rfl) (by kernel_rfl) (by kernel_rfl) ((d4R x0 x1 w R).mp h)
def c7z(x0:Value)(w:World)(R:Value→World→Prop):Prop:=
 opK Tryz.prog (xV (Instr.box 9 x0)) w fun d9q w_2=>
 opK Tryz.prog (xV (Instr.makeFunc (.func 149) #[] #[d9q])) w_2 fun d9r w_4=>
 R d9r w_4
noncomputable def d4T:Code:=Tryz.f130.body.getD .skip
def d4U:Hint:=(.seq .none (.seq .none .none))
set_option maxRecDepth 100000 in
theorem d0O(x0:Value)(w:World)(R:Value→World→Prop):c7z x0 w R=callX Tryz.prog [.tmp 2] d4T d4U [x0] w R:=by kernel_rfl
theorem d0P{x0:Value}{w:World}{R:Value→World→Prop}(h:c7z x0 w R):Cv Tryz.prog 130 #[x0] w R:=
 a8I (args:=[x0]) (c:=d4T) (h:=d4U) Tryz.func130 (by kernel_rfl) (Nat.le_of_ble_eq_true (by kernel_rfl)) (by kernel_rfl) (by kernel_rfl) (by kernel_rfl) ((d0O x0 w R).mp h)
def c2V(x0 x3 x8:Value)(w:World)(next1:List Value→World→Prop)(R:Value→World→Prop):Prop:=
 opK Tryz.prog (xV (Instr.next x8 true 0)) w fun c3R b7i=>
 opK Tryz.prog (xV (Instr.extract c3R 0)) b7i fun d4V d4W=>
 xcond d4V
 (opK Tryz.prog (xV (Instr.extract c3R 1)) d4W fun d4X c7w=>
 opK Tryz.prog (xV (Instr.extract c3R 2)) c7w fun d4Y d9s=>
 opK Tryz.prog (xV (Instr.loadAt 28 x3)) d9s fun d4Z c7t=>
 opK Tryz.prog (xCall (Value.func (.func 150) #[] #[]) [d4Z,d4Y]) c7t fun c0J c7u=>
 opK Tryz.prog (xU (Instr.storeAt 28 x3 c0J)) c7u fun _z_28 c7v=>
 opK Tryz.prog (xV (Instr.loadAt 28 x3)) c7v fun d5a c7y=>
 opY Tryz.prog (xCall x0 [d4X,d5a]) c7y fun d5b d9t=>
 opK Tryz.prog (xV (Op.unary .not d5b)) d9t fun d5c c3P=>
 xcond d5c
 (R (Value.tuple #[]) c3P)
 ((([]:List Nat)=[]∧next1 [] c3P)))
 (R (Value.tuple #[]) d4W)
def c7A(x0 x1:Value)(w:World)(R:Value→World→Prop):Prop:=
 opK Tryz.prog (xCall (Value.func (.func 129) #[] #[]) []) w fun d9u w_3=>
 opK Tryz.prog (xV (Instr.alloc 28 true (.tuple #[]))) w_3 fun d5d w_5=>
 opK Tryz.prog (xU (Instr.storeAt 28 d5d d9u)) w_5 fun _z_6 w_7=>
 opK Tryz.prog (xV (Instr.loadAt 9 x1)) w_7 fun d9v c0H=>
 opK Tryz.prog (xV (Instr.range 9 d9v)) c0H fun d5P c0I=>
 xloop [] [] c0I fun _ c3Q next1=>
 c2V x0 d5d d5P c3Q next1 R
noncomputable def d5e:Code:=Tryz.f149.body.getD .skip
def d5f:HintY:=(.seq .none (.seq .none (.block (.loop [] (.seq .none (.seq (.cond .none .none) (.block (.seq .none (.seq .none (.seq .none (.cond .none .none)))))))))))
set_option maxRecDepth 100000 in
theorem d0Q(x0 x1:Value)(w:World)(R:Value→World→Prop):c7A x0 x1 w R=callY Tryz.prog [] d5e d5f [x0,x1] w R:=by kernel_rfl
theorem d0R{x0 x1:Value}{w:World}{R:Value→World→Prop}(h:c7A x0 x1 w R):Cv Tryz.prog 149 #[x0,x1] w R:=
 b6Y (args:=[x0,x1]) (c:=d5e) (h:=d5f) Tryz.func149 (by kernel_rfl) (Nat.le_of_ble_eq_true (by kernel_rfl)) (by kernel_rfl) (by kernel_rfl) (by kernel_rfl) ((d0Q x0 x1 w R).mp h)
end Go.Proofs.YthklmeihgmcljaaGreatDoor.Od
namespace Go.Proofs.YthklmeihgmcljaaGreatDoor.Od
open Go.RowKit
set_option maxRecDepth 100000
theorem b7R{args:List Value}{w:World}{K:Value→World→Prop}(h:Cv Tryz.prog 129 args.toArray w K):opK Tryz.prog (xCall (.func (.func 129) #[] #[]) args) w K:=a5y (fun args w=>Tryz.call129 args w) (by simpa using h)
theorem c3S{args:List Value}{w:World}{K:Value→World→Prop}(h:Cv Tryz.prog 130 args.toArray w K):opK Tryz.prog (xCall (.func (.func 130) #[] #[]) args) w K:=a5y (fun args w=>Tryz.call130 args w) (by simpa using h)
theorem a6O{g o:Nat}{w:World}{K:Value→World→Prop}(h:ldH (w.heap[g]?) o 2 fun l=>K (.agg l.toArray) w):opK Tryz.prog (xV (Instr.loadAt 28 (.pointer (some ⟨g,o,none⟩)))) w K:=c6c Tryz.isAgg28 Tryz.sizeOf28 h
theorem c7B{g o:Nat}{w:World}{K:Value→World→Prop}(h:ldH (w.heap[g]?) o 1 fun l=>K (nth l 0) w):opK Tryz.prog (xV (Instr.loadAt 9 (.pointer (some ⟨g,o,none⟩)))) w K:=b8W Tryz.isAgg9 h
theorem c6o(s:ByteArray){w:World}{K:Value→World→Prop}:opK Tryz.prog (xV (Instr.range 9 (.string s))) w K=K (.pointer (some ⟨w.heap.size,0,none⟩)) (w.alloc (.stringIter s 0)):=b9B Tryz.underlying9 s
theorem c3T{args:List Value}{w:World}{K:Value→World→Prop}(h:Cv Tryz.prog 150 args.toArray w K):opK Tryz.prog (xCall (.func (.func 150) #[] #[]) args) w K:=a5y (fun args w=>Tryz.call150 args w) (by simpa using h)
end Go.Proofs.YthklmeihgmcljaaGreatDoor.Od
