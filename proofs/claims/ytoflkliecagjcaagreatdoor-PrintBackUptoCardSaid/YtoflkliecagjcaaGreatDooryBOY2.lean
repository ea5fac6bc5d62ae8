/- The second reading of some of the program's functions, printed by gen.py off the code; each is held against the code by the kernel. -/
import Derived.Test.YtoflkliecagjcaaGreatDoorProg
import Derived.KernelRfl
import Derived.Test.YtoflkliecagjcaaGreatDooryBOEY
namespace Go.Proofs.YtoflkliecagjcaaGreatDoor.Od
open Go.RowKit
set_option maxRecDepth 100000
def F90(w:World)(R:Value→World→Prop):Prop:=
 opK Tryz.prog (xV (Instr.alloc 31 true (.tuple #[]))) w fun d2t w_2=>
 opK Tryz.prog (xV (Instr.build 31 #[(0,(Value.int .i64 1)),(1,(Value.int .i64 1))])) w_2 fun d6b w_4=>
 opK Tryz.prog (xU (Instr.storeAt 31 d2t d6b)) w_4 fun _z_5 w_6=>
 xcell Tryz.prog 31 d2t w_6 fun r_7=>
 R r_7 w_6
noncomputable def c90:Code:=Tryz.f90.body.getD .skip
def h90:Hint:=(.seq .none (.seq .none .none))
set_option maxRecDepth 100000 in
theorem d2u(w:World)(R:Value→World→Prop):F90  w R=callX Tryz.prog [.cell 0 31] c90 h90 [] w R:=by kernel_rfl
theorem c3I{w:World}{R:Value→World→Prop}(h:F90  w R):Cv Tryz.prog 90 #[] w R:=
 a5M (args:=[]) (c:=c90) (h:=h90) Tryz.func90 (by kernel_rfl) (Nat.le_of_ble_eq_true (by kernel_rfl)) (by kernel_rfl) (by kernel_rfl) (by kernel_rfl) ((d2u  w R).mp h)
def b8k(x0 x1:Value)(w:World)(R:Value→World→Prop):Prop:=
 opK Tryz.prog (xV (Instr.box 31 x0)) w fun c6a w_2=>
 opK Tryz.prog (xV (Instr.alloc 31 true (.tuple #[]))) w_2 fun c2c w_4=>
 opK Tryz.prog (xBin .eql 21 (.tmp 5) (.const (Value.int .i32 10)) x1 (Value.int .i32 10)) w_4 fun d6c w_6=>
 xcond d6c
 (opK Tryz.prog (xV (Instr.fieldAt 31 c6a 0)) w_6 fun d6d w_8=>
 opK Tryz.prog (xV (Instr.loadAt 3 d6d)) w_8 fun d6e b8D=>
 opK Tryz.prog (xBin .add 3 (.tmp 8) (.const (Value.int .i64 1)) d6e (Value.int .i64 1)) b8D fun d4q b8E=>
 opK Tryz.prog (xV (Instr.build 31 #[(0,d4q),(1,(Value.int .i64 1))])) b8E fun d2v d6f=>
 opK Tryz.prog (xU (Instr.storeAt 31 c2c d2v)) d6f fun _z_15 d2w=>
 xcell Tryz.prog 31 c2c d2w fun d6g=>
 R d6g d2w)
 (opK Tryz.prog (xV (Instr.fieldAt 31 c6a 0)) w_6 fun d2x d6h=>
 opK Tryz.prog (xV (Instr.loadAt 3 d2x)) d6h fun d2y c2d=>
 opK Tryz.prog (xV (Instr.fieldAt 31 c6a 1)) c2d fun d2z d6i=>
 opK Tryz.prog (xV (Instr.loadAt 3 d2z)) d6i fun d2A c6b=>
 opK Tryz.prog (xBin .add 3 (.tmp 14) (.const (Value.int .i64 1)) d2A (Value.int .i64 1)) c6b fun b8F c6c=>
 opK Tryz.prog (xV (Instr.build 31 #[(0,d2y),(1,b8F)])) c6c fun d2B c6d=>
 opK Tryz.prog (xU (Instr.storeAt 31 c2c d2B)) c6d fun _z_30 d2C=>
 xcell Tryz.prog 31 c2c d2C fun d6j=>
 R d6j d2C)
noncomputable def d2D:Code:=Tryz.f123.body.getD .skip
def c1P:Hint:=(.seq .none (.seq (.seq .none (.cond (.seq .none .none) .none)) (.seq .none .none)))
set_option maxRecDepth 100000 in
theorem c9c(x0 x1:Value)(w:World)(R:Value→World→Prop):b8k x0 x1 w R=callX Tryz.prog [.cell 4 31] d2D c1P [x0,x1] w R:=by kernel_rfl
theorem c0t{x0 x1:Value}{w:World}{R:Value→World→Prop}(h:b8k x0 x1 w R):Cv Tryz.prog 123 #[x0,x1] w R:=
 a5M (args:=[x0,x1]) (c:=d2D) (h:=c1P) Tryz.func123 (by kernel_rfl) (Nat.le_of_ble_eq_true (by kernel_rfl)) (by kernel_rfl) (by kernel_rfl) (by kernel_rfl) ((c9c x0 x1 w R).mp h)
end Go.Proofs.YtoflkliecagjcaaGreatDoor.Od
namespace Go.Proofs.YtoflkliecagjcaaGreatDoor.Od
open Go.RowKit
set_option maxRecDepth 100000
theorem a6Y{w:World}{K:Value→World→Prop}:opK Tryz.prog (xV (Instr.alloc 31 true (.tuple #[]))) w K=K (.pointer (some ⟨w.heap.size,0,none⟩)) (w.alloc (.cells #[(Value.int .i64 0),(Value.int .i64 0)] 31)):=c4h Tryz.zeroValue31
theorem a7I(x0:Int)(x1:Int){w:World}{K:Value→World→Prop}:opK Tryz.prog (xV (Instr.build 31 #[(0,(.int .i64 x0)),(1,(.int .i64 x1))])) w K=K (.agg #[(.int .i64 x0),(.int .i64 x1)]) w:=a1Z (by kernel_rfl)
theorem a1s{g o:Nat}{v:Value}{w:World}{K:Value→World→Prop}(hn:v.cells.size=2)(h:stH (w.heap[g]?) o v.cells.toList fun cs=>K undef (w.setRow g cs)):opK Tryz.prog (xU (Instr.storeAt 31 (.pointer (some ⟨g,o,none⟩)) v)) w K:=c4g Tryz.sizeOf31 hn h
theorem b6O{g o:Nat}{w:World}{K:Value→World→Prop}:opK Tryz.prog (xV (Instr.fieldAt 31 (.pointer (some ⟨g,o,none⟩)) 0)) w K=K (.pointer (some ⟨g,o,none⟩)) w:=a1Z (by kernel_rfl)
theorem a7J{g o:Nat}{w:World}{K:Value→World→Prop}(h:ldH (w.heap[g]?) o 1 fun l=>K (nth l 0) w):opK Tryz.prog (xV (Instr.loadAt 3 (.pointer (some ⟨g,o,none⟩)))) w K:=b6N Tryz.isAgg3 h
theorem c4q{g o:Nat}{w:World}{K:Value→World→Prop}:opK Tryz.prog (xV (Instr.fieldAt 31 (.pointer (some ⟨g,o,none⟩)) 1)) w K=K (.pointer (some ⟨g,o+1,none⟩)) w:=a1Z (by kernel_rfl)
theorem b0c{g o:Nat}{w:World}{K:Value→Prop}(h:ldH (w.heap[g]?) o 2 fun l=>K (.agg l.toArray)):xcell Tryz.prog 31 (.pointer (some ⟨g,o,none⟩)) w K:=xcellA Tryz.isAgg31 Tryz.sizeOf31 h
end Go.Proofs.YtoflkliecagjcaaGreatDoor.Od
namespace Go.Proofs.YtoflkliecagjcaaGreatDoor.Od
open Go.RowKit
set_option maxRecDepth 100000
def b5f(x4 x5:Value)(ds:List Nat)(w:World)(R:Value→World→Prop):Prop:=
 opK Tryz.prog (xV (Instr.loadAt 31 x5)) w fun d2E d6k=>
 opK Tryz.prog (xU (Instr.storeAt 31 x4 d2E)) d6k fun _z_19 c6e=>
 closeM ds c6e fun c2d=>xcell Tryz.prog 31 x4 c2d fun d6l=>
 R d6l c2d
def F62(x0 x1:Value)(w:World)(R:Value→World→Prop):Prop:=
 opK Tryz.prog (xV (Instr.box 3 x1)) w fun d6m w_3=>
 opK Tryz.prog (xV (Instr.alloc 31 true (.tuple #[]))) w_3 fun c6f w_5=>
 opK Tryz.prog (xCall (Value.func (.func 90) #[] #[]) []) w_5 fun d6n w_8=>
 opK Tryz.prog (xV (Instr.alloc 31 true (.tuple #[]))) w_8 fun c2e b8D=>
 opK Tryz.prog (xU (Instr.storeAt 31 c2e d6n)) b8D fun _z_11 b8E=>
 opK Tryz.prog (xCall (Value.func (.func 91) #[] #[]) [x0]) b8E fun d2F b4i=>
 xrange Tryz.prog d2F 2 b4i (fun d2G c7D d6o d2H=>
 opK Tryz.prog (xV (Instr.alloc 31 true (.tuple #[]))) d6o fun c7E d6p=>
 opK Tryz.prog (xU (Instr.storeAt 31 c7E (nth c7D 1))) d6p fun _z_31 c6g=>
 beginY (b4i.heap.size+1) d2G c6g fun d6q=>
 opK Tryz.prog (xV (Instr.loadAt 3 d6m)) d6q fun d2I c2f=>
 opK Tryz.prog (xBin .geq 3 (.tmp 13) (.tmp 14) (nth c7D 0) d2I) c2f fun d2J c2g=>
 xcond d2J
 (d2H (.exit 0) c2g)
 (opK Tryz.prog (xV (Instr.loadAt 31 c7E)) c2g fun d2K d6r=>
 opK Tryz.prog (xU (Instr.storeAt 31 c2e d2K)) d6r fun _z_42 d6s=>
 d2H .normal d6s))
 (fun d6t=>b5f c6f c2e (b4i.heap.size::[]) d6t R) (fun d6u=>closeM (b4i.heap.size::[]) d6u fun d2L=>xcell Tryz.prog 31 c6f d2L fun d6v=>
 R d6v d2L) (fun d4r d6w=>(bif Nat.beq d4r 0 then b5f c6f c2e (b4i.heap.size::[]) d6w R else False))
noncomputable def c62:Code:=Tryz.f62.body.getD .skip
def h62:HintY:=(.seq .none (.seq .none (.seq (.seq .none (.block (.range (.seq .none .none) (.block (.seq (.seq .none (.cond .none .none)) .none))))) (.seq .none .none))))
set_option maxRecDepth 100000 in
theorem d2M(x0 x1:Value)(w:World)(R:Value→World→Prop):F62 x0 x1 w R=callY Tryz.prog [.cell 4 31] c62 h62 [x0,x1] w R:=by kernel_rfl
theorem d2N{x0 x1:Value}{w:World}{R:Value→World→Prop}(h:F62 x0 x1 w R):Cv Tryz.prog 62 #[x0,x1] w R:=
 b3K (args:=[x0,x1]) (c:=c62) (h:=h62) Tryz.func62 (by kernel_rfl) (Nat.le_of_ble_eq_true (by kernel_rfl)) (by kernel_rfl) (by kernel_rfl) (by kernel_rfl) ((d2M x0 x1 w R).mp h)
def F91(x0:Value)(w:World)(R:Value→World→Prop):Prop:=
 opK Tryz.prog (xV (Instr.box 9 x0)) w fun d6x w_2=>
 opK Tryz.prog (xV (Instr.makeFunc (.func 122) #[] #[d6x])) w_2 fun d6y w_4=>
 R d6y w_4
noncomputable def c91:Code:=Tryz.f91.body.getD .skip
def h91:Hint:=(.seq .none (.seq .none .none))
set_option maxRecDepth 100000 in
theorem d2O(x0:Value)(w:World)(R:Value→World→Prop):F91 x0 w R=callX Tryz.prog [.tmp 2] c91 h91 [x0] w R:=by kernel_rfl
theorem d2P{x0:Value}{w:World}{R:Value→World→Prop}(h:F91 x0 w R):Cv Tryz.prog 91 #[x0] w R:=
 a5M (args:=[x0]) (c:=c91) (h:=h91) Tryz.func91 (by kernel_rfl) (Nat.le_of_ble_eq_true (by kernel_rfl)) (by kernel_rfl) (by kernel_rfl) (by kernel_rfl) ((d2O x0 w R).mp h)
def c0Z(x0 x3 x8:Value)(w:World)(next1:List Value→World→Prop)(R:Value→World→Prop):Prop:=
 opK Tryz.prog (xV (Instr.next x8 true 0)) w fun c2h b4i=>
 opK Tryz.prog (xV (Instr.extract c2h 0)) b4i fun d2Q d2R=>
 xcond d2Q
 (opK Tryz.prog (xV (Instr.extract c2h 1)) d2R fun d2S c6e=>
 opK Tryz.prog (xV (Instr.extract c2h 2)) c6e fun d2T d6z=>
 opK Tryz.prog (xV (Instr.loadAt 31 x3)) d6z fun d2U c6b=>
 opK Tryz.prog (xCall (Value.func (.func 123) #[] #[]) [d2U,d2T]) c6b fun b8F c6c=>
 opK Tryz.prog (xU (Instr.storeAt 31 x3 b8F)) c6c fun _z_28 c6d=>
 opK Tryz.prog (xV (Instr.loadAt 31 x3)) c6d fun d2V c6g=>
 opY Tryz.prog (xCall x0 [d2S,d2V]) c6g fun d2W d6A=>
 opK Tryz.prog (xV (Op.unary .not d2W)) d6A fun d2X c2f=>
 xcond d2X
 (R (Value.tuple #[]) c2f)
 ((([]:List Nat)=[]∧next1 [] c2f)))
 (R (Value.tuple #[]) d2R)
def c6h(x0 x1:Value)(w:World)(R:Value→World→Prop):Prop:=
 opK Tryz.prog (xCall (Value.func (.func 90) #[] #[]) []) w fun d6B w_3=>
 opK Tryz.prog (xV (Instr.alloc 31 true (.tuple #[]))) w_3 fun d2Y w_5=>
 opK Tryz.prog (xU (Instr.storeAt 31 d2Y d6B)) w_5 fun _z_6 w_7=>
 opK Tryz.prog (xV (Instr.loadAt 9 x1)) w_7 fun d6C b8D=>
 opK Tryz.prog (xV (Instr.range 9 d6C)) b8D fun d4s b8E=>
 xloop [] [] b8E fun _ c2g next1=>
 c0Z x0 d2Y d4s c2g next1 R
noncomputable def d2Z:Code:=Tryz.f122.body.getD .skip
def d3a:HintY:=(.seq .none (.seq .none (.block (.loop [] (.seq .none (.seq (.cond .none .none) (.block (.seq .none (.seq .none (.seq .none (.cond .none .none)))))))))))
set_option maxRecDepth 100000 in
theorem c9d(x0 x1:Value)(w:World)(R:Value→World→Prop):c6h x0 x1 w R=callY Tryz.prog [] d2Z d3a [x0,x1] w R:=by kernel_rfl
theorem c9e{x0 x1:Value}{w:World}{R:Value→World→Prop}(h:c6h x0 x1 w R):Cv Tryz.prog 122 #[x0,x1] w R:=
 b3K (args:=[x0,x1]) (c:=d2Z) (h:=d3a) Tryz.func122 (by kernel_rfl) (Nat.le_of_ble_eq_true (by kernel_rfl)) (by kernel_rfl) (by kernel_rfl) (by kernel_rfl) ((c9d x0 x1 w R).mp h)
end Go.Proofs.YtoflkliecagjcaaGreatDoor.Od
namespace Go.Proofs.YtoflkliecagjcaaGreatDoor.Od
open Go.RowKit
set_option maxRecDepth 100000
theorem b6P{args:List Value}{w:World}{K:Value→World→Prop}(h:Cv Tryz.prog 90 args.toArray w K):opK Tryz.prog (xCall (.func (.func 90) #[] #[]) args) w K:=a3e (fun args w=>Tryz.call90 args w) (by simpa using h)
theorem c4r{args:List Value}{w:World}{K:Value→World→Prop}(h:Cv Tryz.prog 91 args.toArray w K):opK Tryz.prog (xCall (.func (.func 91) #[] #[]) args) w K:=a3e (fun args w=>Tryz.call91 args w) (by simpa using h)
theorem a4a{g o:Nat}{w:World}{K:Value→World→Prop}(h:ldH (w.heap[g]?) o 2 fun l=>K (.agg l.toArray) w):opK Tryz.prog (xV (Instr.loadAt 31 (.pointer (some ⟨g,o,none⟩)))) w K:=c4f Tryz.isAgg31 Tryz.sizeOf31 h
theorem c6i{g o:Nat}{w:World}{K:Value→World→Prop}(h:ldH (w.heap[g]?) o 1 fun l=>K (nth l 0) w):opK Tryz.prog (xV (Instr.loadAt 9 (.pointer (some ⟨g,o,none⟩)))) w K:=b6N Tryz.isAgg9 h
theorem c4s(s:ByteArray){w:World}{K:Value→World→Prop}:opK Tryz.prog (xV (Instr.range 9 (.string s))) w K=K (.pointer (some ⟨w.heap.size,0,none⟩)) (w.alloc (.stringIter s 0)):=b7u Tryz.underlying9 s
theorem c2i{args:List Value}{w:World}{K:Value→World→Prop}(h:Cv Tryz.prog 123 args.toArray w K):opK Tryz.prog (xCall (.func (.func 123) #[] #[]) args) w K:=a3e (fun args w=>Tryz.call123 args w) (by simpa using h)
end Go.Proofs.YtoflkliecagjcaaGreatDoor.Od
