/-
  Single operations at this program's types, and its structures; printed by lift.py.
-/
import Derived.Test.YthldnpmfelniiaaDoorProg
import Derived.Test.YthldnpmfelniiaaDoorS4
import Derived.KernelRfl
import Derived.Laws.StructEq
import Derived.Laws.Tables
import Derived.Laws.Cover2
namespace Go.Proofs.YthldnpmfelniiaaDoor
open Go.RowKit
set_option maxRecDepth 100000
set_option maxHeartbeats 2000000

structure Tapi_Prog where
  fDecls : Sl
  fBody : Sl
structure Tapi_Expr where
  fKind : Int
  fNum : Int
  fName : ByteArray
  fArgs : Sl
structure Tapi_Cond where
  fKind : Int
  fOp : Int
  fExprs : Sl
  fParts : Sl
structure Tapi_Decl where
  fName : ByteArray
  fSize : Int
structure Tgnomonref3_Use where
  fName : ByteArray
  fItem : Bool
structure Ttree_expr where
  fExpr : Tapi_Expr
structure Ttree_walker where
  fnodes : Int
  fdepth : Int
  fe : Int
  fform : Bool
  fnamed : Bool
  fnames : Sl
structure Tgnomonref3_walk where
  fn : Int
  fdepth : Int
  fbad : Int
structure Tgnomonref3_form where
  fok : Bool
  fnames : Bool
structure Ttree_cond where
  fCond : Tapi_Cond
structure Tapi_Stmt where
  fKind : Int
  fName : ByteArray
  fExprs : Sl
  fConds : Sl
  fThen : Sl
  fElse : Sl
structure Tarr114 where
  f0 : Int
  f1 : Int
  f2 : Int
  f3 : Int
structure Twell_walker where
  fl : Sl
structure Twell_use where
  fname : ByteArray
  fas : Int
structure Ttree_decl where
  fDecl : Tapi_Decl
structure Ttree_stmt where
  fStmt : Tapi_Stmt
structure Ttree_has where
  fexprs : Int
  fparts : Int
structure Ttree_has_213 where
  fexprs : Int
  fconds : Int
inductive Itree_node where
  | nil
  | c_tree_expr (x : Ttree_expr)
  | c_tree_cond (x : Ttree_cond)
  | c_tree_decl (x : Ttree_decl)
  | c_tree_stmt (x : Ttree_stmt)
def vItree_node : Itree_node → Value
  | .nil => .nilIface
  | .c_tree_expr x => .iface 96 (.agg #[(Value.int .i64 x.fExpr.fKind), (Value.int .i64 x.fExpr.fNum), (Value.string x.fExpr.fName), (Value.slice x.fExpr.fArgs.a x.fExpr.fArgs.n x.fExpr.fArgs.c)])
  | .c_tree_cond x => .iface 106 (.agg #[(Value.int .i64 x.fCond.fKind), (Value.int .i64 x.fCond.fOp), (Value.slice x.fCond.fExprs.a x.fCond.fExprs.n x.fCond.fExprs.c), (Value.slice x.fCond.fParts.a x.fCond.fParts.n x.fCond.fParts.c)])
  | .c_tree_decl x => .iface 175 (.agg #[(Value.string x.fDecl.fName), (Value.int .i64 x.fDecl.fSize)])
  | .c_tree_stmt x => .iface 177 (.agg #[(Value.int .i64 x.fStmt.fKind), (Value.string x.fStmt.fName), (Value.slice x.fStmt.fExprs.a x.fStmt.fExprs.n x.fStmt.fExprs.c), (Value.slice x.fStmt.fConds.a x.fStmt.fConds.n x.fStmt.fConds.c), (Value.slice x.fStmt.fThen.a x.fStmt.fThen.n x.fStmt.fThen.c), (Value.slice x.fStmt.fElse.a x.fStmt.fElse.n x.fStmt.fElse.c)])
theorem vItree_node_o (x : Itree_node) : [vItree_node x].all (·.oneCell') = true := by cases x <;> rfl
def Itree_node.as_c_tree_expr : Itree_node → Ttree_expr
  | .c_tree_expr x => x
  | _ => (Ttree_expr.mk (Tapi_Expr.mk 0 0 ⟨#[]⟩ (Sl.mk none 0 0)))
def Itree_node.is_c_tree_expr : Itree_node → Bool
  | .c_tree_expr _ => true
  | _ => false
def Itree_node.as_c_tree_cond : Itree_node → Ttree_cond
  | .c_tree_cond x => x
  | _ => (Ttree_cond.mk (Tapi_Cond.mk 0 0 (Sl.mk none 0 0) (Sl.mk none 0 0)))
def Itree_node.is_c_tree_cond : Itree_node → Bool
  | .c_tree_cond _ => true
  | _ => false
def Itree_node.as_c_tree_decl : Itree_node → Ttree_decl
  | .c_tree_decl x => x
  | _ => (Ttree_decl.mk (Tapi_Decl.mk ⟨#[]⟩ 0))
def Itree_node.is_c_tree_decl : Itree_node → Bool
  | .c_tree_decl _ => true
  | _ => false
def Itree_node.as_c_tree_stmt : Itree_node → Ttree_stmt
  | .c_tree_stmt x => x
  | _ => (Ttree_stmt.mk (Tapi_Stmt.mk 0 ⟨#[]⟩ (Sl.mk none 0 0) (Sl.mk none 0 0) (Sl.mk none 0 0) (Sl.mk none 0 0)))
def Itree_node.is_c_tree_stmt : Itree_node → Bool
  | .c_tree_stmt _ => true
  | _ => false
theorem pu_eqb_4 (x y : Operand) (a b : Bool) : Pu Tryd.prog (xBin .eql 4 x y (.bool a) (.bool b)) (.bool (a == b)) := pu_eqB _ _ _ a b Tryd.underlying4
theorem pu_neb_4 (x y : Operand) (a b : Bool) : Pu Tryd.prog (xBin .neq 4 x y (.bool a) (.bool b)) (.bool (a != b)) := pu_neB _ _ _ a b Tryd.underlying4
abbrev cs_uint8 (x : Int) : List Value := [(Value.int .u8 x)]
theorem cs_uint8_l (x : Int) : (cs_uint8 x).length = 1 := rfl
theorem cs_uint8_o (x : Int) : (cs_uint8 x).all (·.oneCell') = true := rfl
theorem inf_5 : Tryd.prog.info? 5 = some ((Tryd.prog.info? 5).getD default) := by kernel_rfl
theorem app_40 {E : Pan} {w0 w : World} {ps : Nat → Prop} {H0 H : Hp} {Fs : List Frag} {K : Value → World → Prop} {s : Sl} {xs : List Int} {F : Frag} {t2 : Sl} {ys : List Int} {ks : List Bool} {ty : TypeId} (I : Inv w0 ps H0 H (F :: Fs) w) (hr : RowL 5 1 cs_uint8 s xs F) (hs : SrcO w cs_uint8 t2 ys) (hb : (xs.length + ys.length) * 2 ≤ 140737488355328) (h : ∀ (s' : Sl) (F' : Frag) (w' : World), RowL 5 1 cs_uint8 s' (xs ++ ys) F' → Inv w0 ps H0 H (F' :: Fs) w' → (∀ k, k < w.heap.size → (∀ p ∈ F, p.1 ≠ k) → w'.heap[k]? = w.heap[k]?) → K (.slice s'.a s'.n s'.c) w') : opK Tryd.prog E (xBuiltin .append #[40, 40] ty ks [.slice s.a s.n s.c, .slice t2.a t2.n t2.c]) w K :=
  s_app (bytes := 1) Tryd.underlying40 inf_5 (z := (Value.int .u8 0)) (by kernel_rfl) (by kernel_rfl) (by kernel_rfl) (by kernel_rfl) I hr hs hb h
theorem bs_40_1 (a0 : Int) (w : World) : (Instr.buildSlice 40 1 #[(0, (Value.int .u8 a0))]).run Tryd.prog w = .ok (.slice (some ⟨w.heap.size, 0, none⟩) 1 1) (w.alloc (.cells [(Value.int .u8 a0)].toArray 5)) := by kernel_rfl
theorem pu_cv_5_41 (k : IntKind) (n : Int) : Pu Tryd.prog (xV (convert 5 41 (.int k n))) (.int .u64 (IntKind.wrap .u64 n)) := Pu.ok fun w => run_convert_int (P := Tryd.prog) (w := w) 5 41 k n (by rw [Tryd.underlying5]; rfl) Tryd.underlying41
theorem pu_len_47 (a : Option Addr) (n c : Nat) : Pu Tryd.prog (xBuiltin .len #[47] 3 [false] [.slice a n c]) (.int .i64 (n : Int)) := pu_len_slice Tryd.underlying47 a n c
theorem pu_fa_25_0 {g o : Nat} : Pu Tryd.prog (xV (Instr.fieldAt 25 (.pointer (some ⟨g, o, none⟩)) 0)) (.pointer (some ⟨g, o + 0, none⟩)) := Pu.ok fun w => by kernel_rfl
theorem pu_len_22 (a : Option Addr) (n c : Nat) : Pu Tryd.prog (xBuiltin .len #[22] 3 [false] [.slice a n c]) (.int .i64 (n : Int)) := pu_len_slice Tryd.underlying22 a n c
theorem pu_ix_22 {a : Option Addr} {g o : Nat} (ha : a = some ⟨g, o, none⟩) (len cap : Nat) (k : IntKind) (i : Int) (h0 : 0 ≤ i) (h1 : i < len) : Pu Tryd.prog (xV (Instr.indexAt 22 (.slice a len cap) (.int k i))) (.pointer (some ⟨g, o + i.toNat * 2, none⟩)) := pu_indexAt Tryd.underlying22 Tryd.sizeOf67 ha len cap k i h0 h1
theorem pu_fa_67_0 {g o : Nat} : Pu Tryd.prog (xV (Instr.fieldAt 67 (.pointer (some ⟨g, o, none⟩)) 0)) (.pointer (some ⟨g, o + 0, none⟩)) := Pu.ok fun w => by kernel_rfl
theorem pu_len_9 (s : ByteArray) : Pu Tryd.prog (xBuiltin .len #[9] 3 [false] [.string s]) (.int .i64 (s.size : Int)) := pu_len_str _ _ s Tryd.underlying9
theorem pu_len_68 (a : Option Addr) (n c : Nat) : Pu Tryd.prog (xBuiltin .len #[68] 3 [false] [.slice a n c]) (.int .i64 (n : Int)) := pu_len_slice Tryd.underlying68 a n c
theorem pu_ix_68 {a : Option Addr} {g o : Nat} (ha : a = some ⟨g, o, none⟩) (len cap : Nat) (k : IntKind) (i : Int) (h0 : 0 ≤ i) (h1 : i < len) : Pu Tryd.prog (xV (Instr.indexAt 68 (.slice a len cap) (.int k i))) (.pointer (some ⟨g, o + i.toNat * 2, none⟩)) := pu_indexAt Tryd.underlying68 Tryd.sizeOf71 ha len cap k i h0 h1
theorem pu_fa_71_0 {g o : Nat} : Pu Tryd.prog (xV (Instr.fieldAt 71 (.pointer (some ⟨g, o, none⟩)) 0)) (.pointer (some ⟨g, o + 0, none⟩)) := Pu.ok fun w => by kernel_rfl
theorem pu_len_40 (a : Option Addr) (n c : Nat) : Pu Tryd.prog (xBuiltin .len #[40] 3 [false] [.slice a n c]) (.int .i64 (n : Int)) := pu_len_slice Tryd.underlying40 a n c
theorem pu_fa_25_1 {g o : Nat} : Pu Tryd.prog (xV (Instr.fieldAt 25 (.pointer (some ⟨g, o, none⟩)) 1)) (.pointer (some ⟨g, o + 1, none⟩)) := Pu.ok fun w => by kernel_rfl
theorem pu_bld_25_1 (a1a : Option Addr) (a1n a1c : Nat) : Pu Tryd.prog (xV (Instr.build 25 #[(1, (Value.slice a1a a1n a1c))])) (.agg #[(Value.slice none 0 0), (Value.slice a1a a1n a1c)]) := Pu.ok fun w => by kernel_rfl
abbrev cs_api_Decl (x : Tapi_Decl) : List Value := [(Value.string x.fName), (Value.int .i64 x.fSize)]
theorem cs_api_Decl_l (x : Tapi_Decl) : (cs_api_Decl x).length = 2 := rfl
theorem cs_api_Decl_o (x : Tapi_Decl) : (cs_api_Decl x).all (·.oneCell') = true := rfl
theorem bs_22_1 (a0_0 : ByteArray) (a0_1 : Int) (w : World) : (Instr.buildSlice 22 1 #[(0, (Value.agg #[(Value.string a0_0), (Value.int .i64 a0_1)]))]).run Tryd.prog w = .ok (.slice (some ⟨w.heap.size, 0, none⟩) 1 1) (w.alloc (.cells [(Value.string a0_0), (Value.int .i64 a0_1)].toArray 67)) := by kernel_rfl
theorem inf_67 : Tryd.prog.info? 67 = some ((Tryd.prog.info? 67).getD default) := by kernel_rfl
theorem app_22 {E : Pan} {w0 w : World} {ps : Nat → Prop} {H0 H : Hp} {Fs : List Frag} {K : Value → World → Prop} {s : Sl} {xs : List Tapi_Decl} {F : Frag} {t2 : Sl} {ys : List Tapi_Decl} {ks : List Bool} {ty : TypeId} (I : Inv w0 ps H0 H (F :: Fs) w) (hr : RowL 67 2 cs_api_Decl s xs F) (hs : SrcO w cs_api_Decl t2 ys) (hb : (xs.length + ys.length) * 25 ≤ 140737488355328) (h : ∀ (s' : Sl) (F' : Frag) (w' : World), RowL 67 2 cs_api_Decl s' (xs ++ ys) F' → Inv w0 ps H0 H (F' :: Fs) w' → (∀ k, k < w.heap.size → (∀ p ∈ F, p.1 ≠ k) → w'.heap[k]? = w.heap[k]?) → K (.slice s'.a s'.n s'.c) w') : opK Tryd.prog E (xBuiltin .append #[22, 22] ty ks [.slice s.a s.n s.c, .slice t2.a t2.n t2.c]) w K :=
  s_app (bytes := 24) Tryd.underlying22 inf_67 (z := (Value.agg #[(Value.string ⟨#[]⟩), (Value.int .i64 0)])) (by kernel_rfl) (by kernel_rfl) (by kernel_rfl) (by kernel_rfl) I hr hs hb h
theorem pu_len_23 (a : Option Addr) (n c : Nat) : Pu Tryd.prog (xBuiltin .len #[23] 3 [false] [.slice a n c]) (.int .i64 (n : Int)) := pu_len_slice Tryd.underlying23 a n c
theorem pu_bld_25_0_1 (a0a : Option Addr) (a0n a0c : Nat) (a1a : Option Addr) (a1n a1c : Nat) : Pu Tryd.prog (xV (Instr.build 25 #[(0, (Value.slice a0a a0n a0c)), (1, (Value.slice a1a a1n a1c))])) (.agg #[(Value.slice a0a a0n a0c), (Value.slice a1a a1n a1c)]) := Pu.ok fun w => by kernel_rfl
theorem pu_bld_30_1_0 (a0 : Int) (a1 : Int) : Pu Tryd.prog (xV (Instr.build 30 #[(1, (Value.int .i64 a1)), (0, (Value.int .i64 a0))])) (.agg #[(Value.int .i64 a0), (Value.int .i64 a1), (Value.string ⟨#[]⟩), (Value.slice none 0 0)]) := Pu.ok fun w => by kernel_rfl
theorem equ_67 (d : Nat) (a0 b0 : ByteArray) (a1 b1 : Int) (w : World) : (Op.equalIn (d + 2) 67 (.agg #[(Value.string a0), (Value.int .i64 a1)]) (.agg #[(Value.string b0), (Value.int .i64 b1)])).run Tryd.prog w = .ok (decide (a0 = b0 ∧ a1 = b1)) w := by
  have u9 := Tryd.underlying9
  have i9 := Tryd.isAgg9
  have s9 := Tryd.sizeOf9
  have u3 := Tryd.underlying3
  have i3 := Tryd.isAgg3
  have s3 := Tryd.sizeOf3
  have hS : Tryd.prog.underlying 67 = some (.struct (Tryd.prog.fieldsOf 67)) := by kernel_rfl
  rw [run_equalIn_agg w (d + 1) 67 _ _ hS (by kernel_rfl)]
  simp only [Program.fieldsOf, Tryd.underlying67]
  go_simp
  try simp only [bytes_tl]
  by_cases h0 : a0 = b0
  · by_cases h1 : a1 = b1
    · simp [h0, h1]
    · simp [h0, h1]
  · simp [h0]
theorem pu_eq_67 (x y : Operand) (a0 b0 : ByteArray) (a1 b1 : Int) : Pu Tryd.prog (xBin .eql 67 x y (.agg #[(Value.string a0), (Value.int .i64 a1)]) (.agg #[(Value.string b0), (Value.int .i64 b1)])) (.bool (decide (a0 = b0 ∧ a1 = b1))) := by
  refine Pu.ok (s := do eqGuard .eql 67 x y (.agg #[(Value.string a0), (Value.int .i64 a1)]) (.agg #[(Value.string b0), (Value.int .i64 b1)]); binOp .eql 67 (.agg #[(Value.string a0), (Value.int .i64 a1)]) (.agg #[(Value.string b0), (Value.int .i64 b1)])) fun w => ?_
  rw [Sem.run_bind, run_eqGuard_agg w _ _ _ _ _ _ (by kernel_rfl), Result.andThen_ok, run_eql_struct, show (10000 : Nat) = 9998 + 2 from rfl, equ_67]
  rfl
theorem pu_ne_67 (x y : Operand) (a0 b0 : ByteArray) (a1 b1 : Int) : Pu Tryd.prog (xBin .neq 67 x y (.agg #[(Value.string a0), (Value.int .i64 a1)]) (.agg #[(Value.string b0), (Value.int .i64 b1)])) (.bool (!decide (a0 = b0 ∧ a1 = b1))) := by
  refine Pu.ok (s := do eqGuard .neq 67 x y (.agg #[(Value.string a0), (Value.int .i64 a1)]) (.agg #[(Value.string b0), (Value.int .i64 b1)]); binOp .neq 67 (.agg #[(Value.string a0), (Value.int .i64 a1)]) (.agg #[(Value.string b0), (Value.int .i64 b1)])) fun w => ?_
  rw [Sem.run_bind, run_eqGuard_agg w _ _ _ _ _ _ (by kernel_rfl), Result.andThen_ok, run_neq_struct, show (10000 : Nat) = 9998 + 2 from rfl, equ_67]
  rfl
theorem pu_bld_96_0 (a0_0 : Int) (a0_1 : Int) (a0_2 : ByteArray) (a0_3a : Option Addr) (a0_3n a0_3c : Nat) : Pu Tryd.prog (xV (Instr.build 96 #[(0, (Value.agg #[(Value.int .i64 a0_0), (Value.int .i64 a0_1), (Value.string a0_2), (Value.slice a0_3a a0_3n a0_3c)]))])) (.agg #[(Value.int .i64 a0_0), (Value.int .i64 a0_1), (Value.string a0_2), (Value.slice a0_3a a0_3n a0_3c)]) := Pu.ok fun w => by kernel_rfl
theorem pu_mki_141_96 (x : Ttree_expr) : Pu Tryd.prog (xV (Instr.makeInterface 96 (.agg #[(Value.int .i64 x.fExpr.fKind), (Value.int .i64 x.fExpr.fNum), (Value.string x.fExpr.fName), (Value.slice x.fExpr.fArgs.a x.fExpr.fArgs.n x.fExpr.fArgs.c)]))) (vItree_node (Itree_node.c_tree_expr x)) := Pu.ok fun w => rfl
abbrev cs_tree_node (x : Itree_node) : List Value := [(vItree_node x)]
theorem cs_tree_node_l (x : Itree_node) : (cs_tree_node x).length = 1 := rfl
theorem cs_tree_node_o (x : Itree_node) : (cs_tree_node x).all (·.oneCell') = true := vItree_node_o x
theorem bs_97_1 (a0 : Itree_node) (w : World) : (Instr.buildSlice 97 1 #[(0, (vItree_node a0))]).run Tryd.prog w = .ok (.slice (some ⟨w.heap.size, 0, none⟩) 1 1) (w.alloc (.cells [(vItree_node a0)].toArray 141)) := by cases a0 <;> kernel_rfl
theorem pu_fa_92_2 {g o : Nat} : Pu Tryd.prog (xV (Instr.fieldAt 92 (.pointer (some ⟨g, o, none⟩)) 2)) (.pointer (some ⟨g, o + 2, none⟩)) := Pu.ok fun w => by kernel_rfl
theorem pu_bld_99  : Pu Tryd.prog (xV (Instr.build 99 #[])) (.agg #[(Value.int .i64 0), (Value.int .i64 0), (Value.int .i64 0)]) := Pu.ok fun w => by kernel_rfl
theorem pu_fa_99_2 {g o : Nat} : Pu Tryd.prog (xV (Instr.fieldAt 99 (.pointer (some ⟨g, o, none⟩)) 2)) (.pointer (some ⟨g, o + 2, none⟩)) := Pu.ok fun w => by kernel_rfl
theorem pu_fa_99_0 {g o : Nat} : Pu Tryd.prog (xV (Instr.fieldAt 99 (.pointer (some ⟨g, o, none⟩)) 0)) (.pointer (some ⟨g, o + 0, none⟩)) := Pu.ok fun w => by kernel_rfl
theorem pu_fa_99_1 {g o : Nat} : Pu Tryd.prog (xV (Instr.fieldAt 99 (.pointer (some ⟨g, o, none⟩)) 1)) (.pointer (some ⟨g, o + 1, none⟩)) := Pu.ok fun w => by kernel_rfl
theorem pu_fa_30_3 {g o : Nat} : Pu Tryd.prog (xV (Instr.fieldAt 30 (.pointer (some ⟨g, o, none⟩)) 3)) (.pointer (some ⟨g, o + 3, none⟩)) := Pu.ok fun w => by kernel_rfl
theorem pu_len_28 (a : Option Addr) (n c : Nat) : Pu Tryd.prog (xBuiltin .len #[28] 3 [false] [.slice a n c]) (.int .i64 (n : Int)) := pu_len_slice Tryd.underlying28 a n c
theorem pu_ix_28 {a : Option Addr} {g o : Nat} (ha : a = some ⟨g, o, none⟩) (len cap : Nat) (k : IntKind) (i : Int) (h0 : 0 ≤ i) (h1 : i < len) : Pu Tryd.prog (xV (Instr.indexAt 28 (.slice a len cap) (.int k i))) (.pointer (some ⟨g, o + i.toNat * 4, none⟩)) := pu_indexAt Tryd.underlying28 Tryd.sizeOf30 ha len cap k i h0 h1
theorem pu_bld_102_0_1 (a0 : Bool) (a1 : Bool) : Pu Tryd.prog (xV (Instr.build 102 #[(0, (Value.bool a0)), (1, (Value.bool a1))])) (.agg #[(Value.bool a0), (Value.bool a1)]) := Pu.ok fun w => by kernel_rfl
theorem pu_fa_30_0 {g o : Nat} : Pu Tryd.prog (xV (Instr.fieldAt 30 (.pointer (some ⟨g, o, none⟩)) 0)) (.pointer (some ⟨g, o + 0, none⟩)) := Pu.ok fun w => by kernel_rfl
theorem pu_fa_30_2 {g o : Nat} : Pu Tryd.prog (xV (Instr.fieldAt 30 (.pointer (some ⟨g, o, none⟩)) 2)) (.pointer (some ⟨g, o + 2, none⟩)) := Pu.ok fun w => by kernel_rfl
theorem pu_fa_102_0 {g o : Nat} : Pu Tryd.prog (xV (Instr.fieldAt 102 (.pointer (some ⟨g, o, none⟩)) 0)) (.pointer (some ⟨g, o + 0, none⟩)) := Pu.ok fun w => by kernel_rfl
theorem pu_fa_102_1 {g o : Nat} : Pu Tryd.prog (xV (Instr.fieldAt 102 (.pointer (some ⟨g, o, none⟩)) 1)) (.pointer (some ⟨g, o + 1, none⟩)) := Pu.ok fun w => by kernel_rfl
theorem pu_fa_30_1 {g o : Nat} : Pu Tryd.prog (xV (Instr.fieldAt 30 (.pointer (some ⟨g, o, none⟩)) 1)) (.pointer (some ⟨g, o + 1, none⟩)) := Pu.ok fun w => by kernel_rfl
theorem pu_bld_106_0 (a0_0 : Int) (a0_1 : Int) (a0_2a : Option Addr) (a0_2n a0_2c : Nat) (a0_3a : Option Addr) (a0_3n a0_3c : Nat) : Pu Tryd.prog (xV (Instr.build 106 #[(0, (Value.agg #[(Value.int .i64 a0_0), (Value.int .i64 a0_1), (Value.slice a0_2a a0_2n a0_2c), (Value.slice a0_3a a0_3n a0_3c)]))])) (.agg #[(Value.int .i64 a0_0), (Value.int .i64 a0_1), (Value.slice a0_2a a0_2n a0_2c), (Value.slice a0_3a a0_3n a0_3c)]) := Pu.ok fun w => by kernel_rfl
theorem pu_mki_141_106 (x : Ttree_cond) : Pu Tryd.prog (xV (Instr.makeInterface 106 (.agg #[(Value.int .i64 x.fCond.fKind), (Value.int .i64 x.fCond.fOp), (Value.slice x.fCond.fExprs.a x.fCond.fExprs.n x.fCond.fExprs.c), (Value.slice x.fCond.fParts.a x.fCond.fParts.n x.fCond.fParts.c)]))) (vItree_node (Itree_node.c_tree_cond x)) := Pu.ok fun w => rfl
theorem pu_fa_33_2 {g o : Nat} : Pu Tryd.prog (xV (Instr.fieldAt 33 (.pointer (some ⟨g, o, none⟩)) 2)) (.pointer (some ⟨g, o + 2, none⟩)) := Pu.ok fun w => by kernel_rfl
theorem pu_fa_33_3 {g o : Nat} : Pu Tryd.prog (xV (Instr.fieldAt 33 (.pointer (some ⟨g, o, none⟩)) 3)) (.pointer (some ⟨g, o + 3, none⟩)) := Pu.ok fun w => by kernel_rfl
theorem pu_len_31 (a : Option Addr) (n c : Nat) : Pu Tryd.prog (xBuiltin .len #[31] 3 [false] [.slice a n c]) (.int .i64 (n : Int)) := pu_len_slice Tryd.underlying31 a n c
theorem pu_ix_31 {a : Option Addr} {g o : Nat} (ha : a = some ⟨g, o, none⟩) (len cap : Nat) (k : IntKind) (i : Int) (h0 : 0 ≤ i) (h1 : i < len) : Pu Tryd.prog (xV (Instr.indexAt 31 (.slice a len cap) (.int k i))) (.pointer (some ⟨g, o + i.toNat * 4, none⟩)) := pu_indexAt Tryd.underlying31 Tryd.sizeOf33 ha len cap k i h0 h1
theorem pu_fa_33_0 {g o : Nat} : Pu Tryd.prog (xV (Instr.fieldAt 33 (.pointer (some ⟨g, o, none⟩)) 0)) (.pointer (some ⟨g, o + 0, none⟩)) := Pu.ok fun w => by kernel_rfl
theorem pu_fa_33_1 {g o : Nat} : Pu Tryd.prog (xV (Instr.fieldAt 33 (.pointer (some ⟨g, o, none⟩)) 1)) (.pointer (some ⟨g, o + 1, none⟩)) := Pu.ok fun w => by kernel_rfl
theorem pu_bld_67_0 (a0 : ByteArray) : Pu Tryd.prog (xV (Instr.build 67 #[(0, (Value.string a0))])) (.agg #[(Value.string a0), (Value.int .i64 0)]) := Pu.ok fun w => by kernel_rfl
theorem pu_bld_25_0 (a0a : Option Addr) (a0n a0c : Nat) : Pu Tryd.prog (xV (Instr.build 25 #[(0, (Value.slice a0a a0n a0c))])) (.agg #[(Value.slice a0a a0n a0c), (Value.slice none 0 0)]) := Pu.ok fun w => by kernel_rfl
theorem pu_ix_40 {a : Option Addr} {g o : Nat} (ha : a = some ⟨g, o, none⟩) (len cap : Nat) (k : IntKind) (i : Int) (h0 : 0 ≤ i) (h1 : i < len) : Pu Tryd.prog (xV (Instr.indexAt 40 (.slice a len cap) (.int k i))) (.pointer (some ⟨g, o + i.toNat * 1, none⟩)) := pu_indexAt Tryd.underlying40 Tryd.sizeOf5 ha len cap k i h0 h1
theorem pu_fa_67_1 {g o : Nat} : Pu Tryd.prog (xV (Instr.fieldAt 67 (.pointer (some ⟨g, o, none⟩)) 1)) (.pointer (some ⟨g, o + 1, none⟩)) := Pu.ok fun w => by kernel_rfl
theorem pu_ix_23 {a : Option Addr} {g o : Nat} (ha : a = some ⟨g, o, none⟩) (len cap : Nat) (k : IntKind) (i : Int) (h0 : 0 ≤ i) (h1 : i < len) : Pu Tryd.prog (xV (Instr.indexAt 23 (.slice a len cap) (.int k i))) (.pointer (some ⟨g, o + i.toNat * 6, none⟩)) := pu_indexAt Tryd.underlying23 Tryd.sizeOf88 ha len cap k i h0 h1
theorem pu_fa_88_0 {g o : Nat} : Pu Tryd.prog (xV (Instr.fieldAt 88 (.pointer (some ⟨g, o, none⟩)) 0)) (.pointer (some ⟨g, o + 0, none⟩)) := Pu.ok fun w => by kernel_rfl
theorem pu_fa_88_1 {g o : Nat} : Pu Tryd.prog (xV (Instr.fieldAt 88 (.pointer (some ⟨g, o, none⟩)) 1)) (.pointer (some ⟨g, o + 1, none⟩)) := Pu.ok fun w => by kernel_rfl
theorem pu_fa_88_2 {g o : Nat} : Pu Tryd.prog (xV (Instr.fieldAt 88 (.pointer (some ⟨g, o, none⟩)) 2)) (.pointer (some ⟨g, o + 2, none⟩)) := Pu.ok fun w => by kernel_rfl
theorem pu_fa_88_3 {g o : Nat} : Pu Tryd.prog (xV (Instr.fieldAt 88 (.pointer (some ⟨g, o, none⟩)) 3)) (.pointer (some ⟨g, o + 3, none⟩)) := Pu.ok fun w => by kernel_rfl
theorem pu_fa_88_4 {g o : Nat} : Pu Tryd.prog (xV (Instr.fieldAt 88 (.pointer (some ⟨g, o, none⟩)) 4)) (.pointer (some ⟨g, o + 4, none⟩)) := Pu.ok fun w => by kernel_rfl
theorem pu_fa_88_5 {g o : Nat} : Pu Tryd.prog (xV (Instr.fieldAt 88 (.pointer (some ⟨g, o, none⟩)) 5)) (.pointer (some ⟨g, o + 5, none⟩)) := Pu.ok fun w => by kernel_rfl
theorem pu_fa_92_1 {g o : Nat} : Pu Tryd.prog (xV (Instr.fieldAt 92 (.pointer (some ⟨g, o, none⟩)) 1)) (.pointer (some ⟨g, o + 1, none⟩)) := Pu.ok fun w => by kernel_rfl
theorem pu_fa_92_0 {g o : Nat} : Pu Tryd.prog (xV (Instr.fieldAt 92 (.pointer (some ⟨g, o, none⟩)) 0)) (.pointer (some ⟨g, o + 0, none⟩)) := Pu.ok fun w => by kernel_rfl
theorem pu_fa_92_5 {g o : Nat} : Pu Tryd.prog (xV (Instr.fieldAt 92 (.pointer (some ⟨g, o, none⟩)) 5)) (.pointer (some ⟨g, o + 5, none⟩)) := Pu.ok fun w => by kernel_rfl
theorem pu_ix_47 {a : Option Addr} {g o : Nat} (ha : a = some ⟨g, o, none⟩) (len cap : Nat) (k : IntKind) (i : Int) (h0 : 0 ≤ i) (h1 : i < len) : Pu Tryd.prog (xV (Instr.indexAt 47 (.slice a len cap) (.int k i))) (.pointer (some ⟨g, o + i.toNat * 1, none⟩)) := pu_indexAt Tryd.underlying47 Tryd.sizeOf9 ha len cap k i h0 h1
abbrev cs_string (x : ByteArray) : List Value := [(Value.string x)]
theorem cs_string_l (x : ByteArray) : (cs_string x).length = 1 := rfl
theorem cs_string_o (x : ByteArray) : (cs_string x).all (·.oneCell') = true := rfl
theorem pu_bla_114 : Pu Tryd.prog (xV (Instr.build 114 #[])) (.agg #[.int .i64 0, .int .i64 0, .int .i64 0, .int .i64 0]) := Pu.ok fun w => by kernel_rfl
theorem pu_cv_3_41 (k : IntKind) (n : Int) : Pu Tryd.prog (xV (convert 3 41 (.int k n))) (.int .u64 (IntKind.wrap .u64 n)) := Pu.ok fun w => run_convert_int (P := Tryd.prog) (w := w) 3 41 k n (by rw [Tryd.underlying3]; rfl) Tryd.underlying41
abbrev cs_gnomonref3_Use (x : Tgnomonref3_Use) : List Value := [(Value.string x.fName), (Value.bool x.fItem)]
theorem cs_gnomonref3_Use_l (x : Tgnomonref3_Use) : (cs_gnomonref3_Use x).length = 2 := rfl
theorem cs_gnomonref3_Use_o (x : Tgnomonref3_Use) : (cs_gnomonref3_Use x).all (·.oneCell') = true := rfl
theorem bs_22_2 (a0_0 : ByteArray) (a0_1 : Int) (a1_0 : ByteArray) (a1_1 : Int) (w : World) : (Instr.buildSlice 22 2 #[(0, (Value.agg #[(Value.string a0_0), (Value.int .i64 a0_1)])), (1, (Value.agg #[(Value.string a1_0), (Value.int .i64 a1_1)]))]).run Tryd.prog w = .ok (.slice (some ⟨w.heap.size, 0, none⟩) 2 2) (w.alloc (.cells [(Value.string a0_0), (Value.int .i64 a0_1), (Value.string a1_0), (Value.int .i64 a1_1)].toArray 67)) := by kernel_rfl
theorem pu_bld_126  : Pu Tryd.prog (xV (Instr.build 126 #[])) (.agg #[(Value.slice none 0 0)]) := Pu.ok fun w => by kernel_rfl
theorem pu_fa_126_0 {g o : Nat} : Pu Tryd.prog (xV (Instr.fieldAt 126 (.pointer (some ⟨g, o, none⟩)) 0)) (.pointer (some ⟨g, o + 0, none⟩)) := Pu.ok fun w => by kernel_rfl
theorem pu_bld_128_0_1 (a0 : ByteArray) (a1 : Int) : Pu Tryd.prog (xV (Instr.build 128 #[(0, (Value.string a0)), (1, (Value.int .i64 a1))])) (.agg #[(Value.string a0), (Value.int .i64 a1)]) := Pu.ok fun w => by kernel_rfl
abbrev cs_well_use (x : Twell_use) : List Value := [(Value.string x.fname), (Value.int .i64 x.fas)]
theorem cs_well_use_l (x : Twell_use) : (cs_well_use x).length = 2 := rfl
theorem cs_well_use_o (x : Twell_use) : (cs_well_use x).all (·.oneCell') = true := rfl
theorem bs_124_1 (a0_0 : ByteArray) (a0_1 : Int) (w : World) : (Instr.buildSlice 124 1 #[(0, (Value.agg #[(Value.string a0_0), (Value.int .i64 a0_1)]))]).run Tryd.prog w = .ok (.slice (some ⟨w.heap.size, 0, none⟩) 1 1) (w.alloc (.cells [(Value.string a0_0), (Value.int .i64 a0_1)].toArray 128)) := by kernel_rfl
theorem inf_128 : Tryd.prog.info? 128 = some ((Tryd.prog.info? 128).getD default) := by kernel_rfl
theorem app_124 {E : Pan} {w0 w : World} {ps : Nat → Prop} {H0 H : Hp} {Fs : List Frag} {K : Value → World → Prop} {s : Sl} {xs : List Twell_use} {F : Frag} {t2 : Sl} {ys : List Twell_use} {ks : List Bool} {ty : TypeId} (I : Inv w0 ps H0 H (F :: Fs) w) (hr : RowL 128 2 cs_well_use s xs F) (hs : SrcO w cs_well_use t2 ys) (hb : (xs.length + ys.length) * 25 ≤ 140737488355328) (h : ∀ (s' : Sl) (F' : Frag) (w' : World), RowL 128 2 cs_well_use s' (xs ++ ys) F' → Inv w0 ps H0 H (F' :: Fs) w' → (∀ k, k < w.heap.size → (∀ p ∈ F, p.1 ≠ k) → w'.heap[k]? = w.heap[k]?) → K (.slice s'.a s'.n s'.c) w') : opK Tryd.prog E (xBuiltin .append #[124, 124] ty ks [.slice s.a s.n s.c, .slice t2.a t2.n t2.c]) w K :=
  s_app (bytes := 24) Tryd.underlying124 inf_128 (z := (Value.agg #[(Value.string ⟨#[]⟩), (Value.int .i64 0)])) (by kernel_rfl) (by kernel_rfl) (by kernel_rfl) (by kernel_rfl) I hr hs hb h
theorem pu_len_124 (a : Option Addr) (n c : Nat) : Pu Tryd.prog (xBuiltin .len #[124] 3 [false] [.slice a n c]) (.int .i64 (n : Int)) := pu_len_slice Tryd.underlying124 a n c
theorem pu_ix_124 {a : Option Addr} {g o : Nat} (ha : a = some ⟨g, o, none⟩) (len cap : Nat) (k : IntKind) (i : Int) (h0 : 0 ≤ i) (h1 : i < len) : Pu Tryd.prog (xV (Instr.indexAt 124 (.slice a len cap) (.int k i))) (.pointer (some ⟨g, o + i.toNat * 2, none⟩)) := pu_indexAt Tryd.underlying124 Tryd.sizeOf128 ha len cap k i h0 h1
theorem pu_fa_128_0 {g o : Nat} : Pu Tryd.prog (xV (Instr.fieldAt 128 (.pointer (some ⟨g, o, none⟩)) 0)) (.pointer (some ⟨g, o + 0, none⟩)) := Pu.ok fun w => by kernel_rfl
theorem pu_bld_25  : Pu Tryd.prog (xV (Instr.build 25 #[])) (.agg #[(Value.slice none 0 0), (Value.slice none 0 0)]) := Pu.ok fun w => by kernel_rfl
theorem pu_bld_67_0_1 (a0 : ByteArray) (a1 : Int) : Pu Tryd.prog (xV (Instr.build 67 #[(0, (Value.string a0)), (1, (Value.int .i64 a1))])) (.agg #[(Value.string a0), (Value.int .i64 a1)]) := Pu.ok fun w => by kernel_rfl
theorem pu_fa_71_1 {g o : Nat} : Pu Tryd.prog (xV (Instr.fieldAt 71 (.pointer (some ⟨g, o, none⟩)) 1)) (.pointer (some ⟨g, o + 1, none⟩)) := Pu.ok fun w => by kernel_rfl
theorem bs_47_1 (a0 : ByteArray) (w : World) : (Instr.buildSlice 47 1 #[(0, (Value.string a0))]).run Tryd.prog w = .ok (.slice (some ⟨w.heap.size, 0, none⟩) 1 1) (w.alloc (.cells [(Value.string a0)].toArray 9)) := by kernel_rfl
theorem inf_9 : Tryd.prog.info? 9 = some ((Tryd.prog.info? 9).getD default) := by kernel_rfl
theorem app_47 {E : Pan} {w0 w : World} {ps : Nat → Prop} {H0 H : Hp} {Fs : List Frag} {K : Value → World → Prop} {s : Sl} {xs : List ByteArray} {F : Frag} {t2 : Sl} {ys : List ByteArray} {ks : List Bool} {ty : TypeId} (I : Inv w0 ps H0 H (F :: Fs) w) (hr : RowL 9 1 cs_string s xs F) (hs : SrcO w cs_string t2 ys) (hb : (xs.length + ys.length) * 17 ≤ 140737488355328) (h : ∀ (s' : Sl) (F' : Frag) (w' : World), RowL 9 1 cs_string s' (xs ++ ys) F' → Inv w0 ps H0 H (F' :: Fs) w' → (∀ k, k < w.heap.size → (∀ p ∈ F, p.1 ≠ k) → w'.heap[k]? = w.heap[k]?) → K (.slice s'.a s'.n s'.c) w') : opK Tryd.prog E (xBuiltin .append #[47, 47] ty ks [.slice s.a s.n s.c, .slice t2.a t2.n t2.c]) w K :=
  s_app (bytes := 16) Tryd.underlying47 inf_9 (z := (Value.string ⟨#[]⟩)) (by kernel_rfl) (by kernel_rfl) (by kernel_rfl) (by kernel_rfl) I hr hs hb h
theorem pu_bld_30_0_2 (a0 : Int) (a2 : ByteArray) : Pu Tryd.prog (xV (Instr.build 30 #[(0, (Value.int .i64 a0)), (2, (Value.string a2))])) (.agg #[(Value.int .i64 a0), (Value.int .i64 0), (Value.string a2), (Value.slice none 0 0)]) := Pu.ok fun w => by kernel_rfl
theorem pu_bld_30_0_1 (a0 : Int) (a1 : Int) : Pu Tryd.prog (xV (Instr.build 30 #[(0, (Value.int .i64 a0)), (1, (Value.int .i64 a1))])) (.agg #[(Value.int .i64 a0), (Value.int .i64 a1), (Value.string ⟨#[]⟩), (Value.slice none 0 0)]) := Pu.ok fun w => by kernel_rfl
abbrev cs_api_Expr (x : Tapi_Expr) : List Value := [(Value.int .i64 x.fKind), (Value.int .i64 x.fNum), (Value.string x.fName), (Value.slice x.fArgs.a x.fArgs.n x.fArgs.c)]
theorem cs_api_Expr_l (x : Tapi_Expr) : (cs_api_Expr x).length = 4 := rfl
theorem cs_api_Expr_o (x : Tapi_Expr) : (cs_api_Expr x).all (·.oneCell') = true := rfl
theorem bs_28_2 (a0_0 : Int) (a0_1 : Int) (a0_2 : ByteArray) (a0_3a : Option Addr) (a0_3n a0_3c : Nat) (a1_0 : Int) (a1_1 : Int) (a1_2 : ByteArray) (a1_3a : Option Addr) (a1_3n a1_3c : Nat) (w : World) : (Instr.buildSlice 28 2 #[(0, (Value.agg #[(Value.int .i64 a0_0), (Value.int .i64 a0_1), (Value.string a0_2), (Value.slice a0_3a a0_3n a0_3c)])), (1, (Value.agg #[(Value.int .i64 a1_0), (Value.int .i64 a1_1), (Value.string a1_2), (Value.slice a1_3a a1_3n a1_3c)]))]).run Tryd.prog w = .ok (.slice (some ⟨w.heap.size, 0, none⟩) 2 2) (w.alloc (.cells [(Value.int .i64 a0_0), (Value.int .i64 a0_1), (Value.string a0_2), (Value.slice a0_3a a0_3n a0_3c), (Value.int .i64 a1_0), (Value.int .i64 a1_1), (Value.string a1_2), (Value.slice a1_3a a1_3n a1_3c)].toArray 30)) := by kernel_rfl
theorem pu_bld_30_0_3 (a0 : Int) (a3a : Option Addr) (a3n a3c : Nat) : Pu Tryd.prog (xV (Instr.build 30 #[(0, (Value.int .i64 a0)), (3, (Value.slice a3a a3n a3c))])) (.agg #[(Value.int .i64 a0), (Value.int .i64 0), (Value.string ⟨#[]⟩), (Value.slice a3a a3n a3c)]) := Pu.ok fun w => by kernel_rfl
theorem bs_28_1 (a0_0 : Int) (a0_1 : Int) (a0_2 : ByteArray) (a0_3a : Option Addr) (a0_3n a0_3c : Nat) (w : World) : (Instr.buildSlice 28 1 #[(0, (Value.agg #[(Value.int .i64 a0_0), (Value.int .i64 a0_1), (Value.string a0_2), (Value.slice a0_3a a0_3n a0_3c)]))]).run Tryd.prog w = .ok (.slice (some ⟨w.heap.size, 0, none⟩) 1 1) (w.alloc (.cells [(Value.int .i64 a0_0), (Value.int .i64 a0_1), (Value.string a0_2), (Value.slice a0_3a a0_3n a0_3c)].toArray 30)) := by kernel_rfl
theorem pu_bld_88_0_1_2 (a0 : Int) (a1 : ByteArray) (a2a : Option Addr) (a2n a2c : Nat) : Pu Tryd.prog (xV (Instr.build 88 #[(0, (Value.int .i64 a0)), (1, (Value.string a1)), (2, (Value.slice a2a a2n a2c))])) (.agg #[(Value.int .i64 a0), (Value.string a1), (Value.slice a2a a2n a2c), (Value.slice none 0 0), (Value.slice none 0 0), (Value.slice none 0 0)]) := Pu.ok fun w => by kernel_rfl
abbrev cs_api_Stmt (x : Tapi_Stmt) : List Value := [(Value.int .i64 x.fKind), (Value.string x.fName), (Value.slice x.fExprs.a x.fExprs.n x.fExprs.c), (Value.slice x.fConds.a x.fConds.n x.fConds.c), (Value.slice x.fThen.a x.fThen.n x.fThen.c), (Value.slice x.fElse.a x.fElse.n x.fElse.c)]
theorem cs_api_Stmt_l (x : Tapi_Stmt) : (cs_api_Stmt x).length = 6 := rfl
theorem cs_api_Stmt_o (x : Tapi_Stmt) : (cs_api_Stmt x).all (·.oneCell') = true := rfl
theorem bs_23_1 (a0_0 : Int) (a0_1 : ByteArray) (a0_2a : Option Addr) (a0_2n a0_2c : Nat) (a0_3a : Option Addr) (a0_3n a0_3c : Nat) (a0_4a : Option Addr) (a0_4n a0_4c : Nat) (a0_5a : Option Addr) (a0_5n a0_5c : Nat) (w : World) : (Instr.buildSlice 23 1 #[(0, (Value.agg #[(Value.int .i64 a0_0), (Value.string a0_1), (Value.slice a0_2a a0_2n a0_2c), (Value.slice a0_3a a0_3n a0_3c), (Value.slice a0_4a a0_4n a0_4c), (Value.slice a0_5a a0_5n a0_5c)]))]).run Tryd.prog w = .ok (.slice (some ⟨w.heap.size, 0, none⟩) 1 1) (w.alloc (.cells [(Value.int .i64 a0_0), (Value.string a0_1), (Value.slice a0_2a a0_2n a0_2c), (Value.slice a0_3a a0_3n a0_3c), (Value.slice a0_4a a0_4n a0_4c), (Value.slice a0_5a a0_5n a0_5c)].toArray 88)) := by kernel_rfl
theorem pu_fld_99_2 {a0 a1 a2 : Value} : Pu Tryd.prog (xV (Instr.field 99 (.agg #[a0, a1, a2]) 2)) a2 := Pu.ok fun w => by kernel_rfl
theorem pu_bld_92  : Pu Tryd.prog (xV (Instr.build 92 #[])) (.agg #[(Value.int .i64 0), (Value.int .i64 0), (Value.int .i64 0), (Value.bool false), (Value.bool false), (Value.slice none 0 0)]) := Pu.ok fun w => by kernel_rfl
theorem pu_len_97 (a : Option Addr) (n c : Nat) : Pu Tryd.prog (xBuiltin .len #[97] 3 [false] [.slice a n c]) (.int .i64 (n : Int)) := pu_len_slice Tryd.underlying97 a n c
theorem pu_ix_97 {a : Option Addr} {g o : Nat} (ha : a = some ⟨g, o, none⟩) (len cap : Nat) (k : IntKind) (i : Int) (h0 : 0 ≤ i) (h1 : i < len) : Pu Tryd.prog (xV (Instr.indexAt 97 (.slice a len cap) (.int k i))) (.pointer (some ⟨g, o + i.toNat * 1, none⟩)) := pu_indexAt Tryd.underlying97 Tryd.sizeOf141 ha len cap k i h0 h1
theorem pu_fa_92_3 {g o : Nat} : Pu Tryd.prog (xV (Instr.fieldAt 92 (.pointer (some ⟨g, o, none⟩)) 3)) (.pointer (some ⟨g, o + 3, none⟩)) := Pu.ok fun w => by kernel_rfl
theorem pu_fa_92_4 {g o : Nat} : Pu Tryd.prog (xV (Instr.fieldAt 92 (.pointer (some ⟨g, o, none⟩)) 4)) (.pointer (some ⟨g, o + 4, none⟩)) := Pu.ok fun w => by kernel_rfl
theorem bs_172_2 (a0a : Option Addr) (a0n a0c : Nat) (a1a : Option Addr) (a1n a1c : Nat) (w : World) : (Instr.buildSlice 172 2 #[(0, (Value.slice a0a a0n a0c)), (1, (Value.slice a1a a1n a1c))]).run Tryd.prog w = .ok (.slice (some ⟨w.heap.size, 0, none⟩) 2 2) (w.alloc (.cells [(Value.slice a0a a0n a0c), (Value.slice a1a a1n a1c)].toArray 97)) := by kernel_rfl
theorem pu_cv_3_5 (k : IntKind) (n : Int) : Pu Tryd.prog (xV (convert 3 5 (.int k n))) (.int .u8 (IntKind.wrap .u8 n)) := Pu.ok fun w => run_convert_int (P := Tryd.prog) (w := w) 3 5 k n (by rw [Tryd.underlying3]; rfl) Tryd.underlying5
theorem bs_40_2 (a0 : Int) (a1 : Int) (w : World) : (Instr.buildSlice 40 2 #[(0, (Value.int .u8 a0)), (1, (Value.int .u8 a1))]).run Tryd.prog w = .ok (.slice (some ⟨w.heap.size, 0, none⟩) 2 2) (w.alloc (.cells [(Value.int .u8 a0), (Value.int .u8 a1)].toArray 5)) := by kernel_rfl
theorem pu_cv_41_5 (k : IntKind) (n : Int) : Pu Tryd.prog (xV (convert 41 5 (.int k n))) (.int .u8 (IntKind.wrap .u8 n)) := Pu.ok fun w => run_convert_int (P := Tryd.prog) (w := w) 41 5 k n (by rw [Tryd.underlying41]; rfl) Tryd.underlying5
theorem pu_is_9 (s : ByteArray) (k : IntKind) (i : Int) (h0 : 0 ≤ i) (h1 : i < s.size) : Pu Tryd.prog (xV (Instr.index 9 (.string s) (.int k i))) (.int .u8 ((s.get! i.toNat).toNat : Int)) := pu_index_str _ s k i Tryd.underlying9 h0 h1
theorem pu_ixp_114 {g o : Nat} (k : IntKind) (i : Int) (h0 : 0 ≤ i) (h1 : i < 4) : Pu Tryd.prog (xV (Instr.indexAt 114 (.pointer (some ⟨g, o, none⟩)) (.int k i))) (.pointer (some ⟨g, o + i.toNat * 1, none⟩)) := pu_indexArr Tryd.underlying114 Tryd.sizeOf3 k i h0 h1
theorem pu_bla_114_0_1_2_3 (a0 a1 a2 a3 : Int) : Pu Tryd.prog (xV (Instr.build 114 #[(0, .int .i64 a0), (1, .int .i64 a1), (2, .int .i64 a2), (3, .int .i64 a3)])) (.agg #[.int .i64 a0, .int .i64 a1, .int .i64 a2, .int .i64 a3]) := Pu.ok fun w => by kernel_rfl
theorem pu_bld_71_0_1 (a0 : ByteArray) (a1 : Bool) : Pu Tryd.prog (xV (Instr.build 71 #[(0, (Value.string a0)), (1, (Value.bool a1))])) (.agg #[(Value.string a0), (Value.bool a1)]) := Pu.ok fun w => by kernel_rfl
theorem bs_68_1 (a0_0 : ByteArray) (a0_1 : Bool) (w : World) : (Instr.buildSlice 68 1 #[(0, (Value.agg #[(Value.string a0_0), (Value.bool a0_1)]))]).run Tryd.prog w = .ok (.slice (some ⟨w.heap.size, 0, none⟩) 1 1) (w.alloc (.cells [(Value.string a0_0), (Value.bool a0_1)].toArray 71)) := by kernel_rfl
theorem inf_71 : Tryd.prog.info? 71 = some ((Tryd.prog.info? 71).getD default) := by kernel_rfl
theorem app_68 {E : Pan} {w0 w : World} {ps : Nat → Prop} {H0 H : Hp} {Fs : List Frag} {K : Value → World → Prop} {s : Sl} {xs : List Tgnomonref3_Use} {F : Frag} {t2 : Sl} {ys : List Tgnomonref3_Use} {ks : List Bool} {ty : TypeId} (I : Inv w0 ps H0 H (F :: Fs) w) (hr : RowL 71 2 cs_gnomonref3_Use s xs F) (hs : SrcO w cs_gnomonref3_Use t2 ys) (hb : (xs.length + ys.length) * 25 ≤ 140737488355328) (h : ∀ (s' : Sl) (F' : Frag) (w' : World), RowL 71 2 cs_gnomonref3_Use s' (xs ++ ys) F' → Inv w0 ps H0 H (F' :: Fs) w' → (∀ k, k < w.heap.size → (∀ p ∈ F, p.1 ≠ k) → w'.heap[k]? = w.heap[k]?) → K (.slice s'.a s'.n s'.c) w') : opK Tryd.prog E (xBuiltin .append #[68, 68] ty ks [.slice s.a s.n s.c, .slice t2.a t2.n t2.c]) w K :=
  s_app (bytes := 24) Tryd.underlying68 inf_71 (z := (Value.agg #[(Value.string ⟨#[]⟩), (Value.bool false)])) (by kernel_rfl) (by kernel_rfl) (by kernel_rfl) (by kernel_rfl) I hr hs hb h
theorem pu_slnil_22 (x y : Operand) (s : Sl) : Pu Tryd.prog (xBin .eql 22 x y (vs s) (.slice none 0 0)) (.bool s.a.isNone) := pu_issnil _ _ _ s Tryd.underlying22
theorem pu_nslnil_22 (x y : Operand) (s : Sl) : Pu Tryd.prog (xBin .neq 22 x y (vs s) (.slice none 0 0)) (.bool (!s.a.isNone)) := pu_isnsnil _ _ _ s Tryd.underlying22
theorem bs_22_0  (w : World) : (Instr.buildSlice 22 0 #[]).run Tryd.prog w = .ok (.slice (some ⟨w.heap.size, 0, none⟩) 0 0) (w.alloc (.cells [].toArray 67)) := by kernel_rfl
theorem pu_bld_88_0_1_4_5 (a0 : Int) (a1 : ByteArray) (a4a : Option Addr) (a4n a4c : Nat) (a5a : Option Addr) (a5n a5c : Nat) : Pu Tryd.prog (xV (Instr.build 88 #[(0, (Value.int .i64 a0)), (1, (Value.string a1)), (4, (Value.slice a4a a4n a4c)), (5, (Value.slice a5a a5n a5c))])) (.agg #[(Value.int .i64 a0), (Value.string a1), (Value.slice none 0 0), (Value.slice none 0 0), (Value.slice a4a a4n a4c), (Value.slice a5a a5n a5c)]) := Pu.ok fun w => by kernel_rfl
abbrev cs_api_Cond (x : Tapi_Cond) : List Value := [(Value.int .i64 x.fKind), (Value.int .i64 x.fOp), (Value.slice x.fExprs.a x.fExprs.n x.fExprs.c), (Value.slice x.fParts.a x.fParts.n x.fParts.c)]
theorem cs_api_Cond_l (x : Tapi_Cond) : (cs_api_Cond x).length = 4 := rfl
theorem cs_api_Cond_o (x : Tapi_Cond) : (cs_api_Cond x).all (·.oneCell') = true := rfl
theorem bs_31_1 (a0_0 : Int) (a0_1 : Int) (a0_2a : Option Addr) (a0_2n a0_2c : Nat) (a0_3a : Option Addr) (a0_3n a0_3c : Nat) (w : World) : (Instr.buildSlice 31 1 #[(0, (Value.agg #[(Value.int .i64 a0_0), (Value.int .i64 a0_1), (Value.slice a0_2a a0_2n a0_2c), (Value.slice a0_3a a0_3n a0_3c)]))]).run Tryd.prog w = .ok (.slice (some ⟨w.heap.size, 0, none⟩) 1 1) (w.alloc (.cells [(Value.int .i64 a0_0), (Value.int .i64 a0_1), (Value.slice a0_2a a0_2n a0_2c), (Value.slice a0_3a a0_3n a0_3c)].toArray 33)) := by kernel_rfl
theorem inf_33 : Tryd.prog.info? 33 = some ((Tryd.prog.info? 33).getD default) := by kernel_rfl
theorem app_31 {E : Pan} {w0 w : World} {ps : Nat → Prop} {H0 H : Hp} {Fs : List Frag} {K : Value → World → Prop} {s : Sl} {xs : List Tapi_Cond} {F : Frag} {t2 : Sl} {ys : List Tapi_Cond} {ks : List Bool} {ty : TypeId} (I : Inv w0 ps H0 H (F :: Fs) w) (hr : RowL 33 4 cs_api_Cond s xs F) (hs : SrcO w cs_api_Cond t2 ys) (hb : (xs.length + ys.length) * 65 ≤ 140737488355328) (h : ∀ (s' : Sl) (F' : Frag) (w' : World), RowL 33 4 cs_api_Cond s' (xs ++ ys) F' → Inv w0 ps H0 H (F' :: Fs) w' → (∀ k, k < w.heap.size → (∀ p ∈ F, p.1 ≠ k) → w'.heap[k]? = w.heap[k]?) → K (.slice s'.a s'.n s'.c) w') : opK Tryd.prog E (xBuiltin .append #[31, 31] ty ks [.slice s.a s.n s.c, .slice t2.a t2.n t2.c]) w K :=
  s_app (bytes := 64) Tryd.underlying31 inf_33 (z := (Value.agg #[(Value.int .i64 0), (Value.int .i64 0), (Value.slice none 0 0), (Value.slice none 0 0)])) (by kernel_rfl) (by kernel_rfl) (by kernel_rfl) (by kernel_rfl) I hr hs hb h
theorem pu_len_172 (a : Option Addr) (n c : Nat) : Pu Tryd.prog (xBuiltin .len #[172] 3 [false] [.slice a n c]) (.int .i64 (n : Int)) := pu_len_slice Tryd.underlying172 a n c
theorem pu_ix_172 {a : Option Addr} {g o : Nat} (ha : a = some ⟨g, o, none⟩) (len cap : Nat) (k : IntKind) (i : Int) (h0 : 0 ≤ i) (h1 : i < len) : Pu Tryd.prog (xV (Instr.indexAt 172 (.slice a len cap) (.int k i))) (.pointer (some ⟨g, o + i.toNat * 1, none⟩)) := pu_indexAt Tryd.underlying172 Tryd.sizeOf97 ha len cap k i h0 h1
theorem pu_mkis_9 (s : ByteArray) : Pu Tryd.prog (xV (Instr.makeInterface 9 (.string s))) (.iface 9 (.string s)) := Pu.ok fun w => by kernel_rfl
theorem inf_141 : Tryd.prog.info? 141 = some ((Tryd.prog.info? 141).getD default) := by kernel_rfl
theorem app_97 {E : Pan} {w0 w : World} {ps : Nat → Prop} {H0 H : Hp} {Fs : List Frag} {K : Value → World → Prop} {s : Sl} {xs : List Itree_node} {F : Frag} {t2 : Sl} {ys : List Itree_node} {ks : List Bool} {ty : TypeId} (I : Inv w0 ps H0 H (F :: Fs) w) (hr : RowL 141 1 cs_tree_node s xs F) (hs : SrcO w cs_tree_node t2 ys) (hb : (xs.length + ys.length) * 17 ≤ 140737488355328) (h : ∀ (s' : Sl) (F' : Frag) (w' : World), RowL 141 1 cs_tree_node s' (xs ++ ys) F' → Inv w0 ps H0 H (F' :: Fs) w' → (∀ k, k < w.heap.size → (∀ p ∈ F, p.1 ≠ k) → w'.heap[k]? = w.heap[k]?) → K (.slice s'.a s'.n s'.c) w') : opK Tryd.prog E (xBuiltin .append #[97, 97] ty ks [.slice s.a s.n s.c, .slice t2.a t2.n t2.c]) w K :=
  s_app (bytes := 16) Tryd.underlying97 inf_141 (z := Value.nilIface) (by kernel_rfl) (by kernel_rfl) (by kernel_rfl) (by kernel_rfl) I hr hs hb h
theorem pu_bld_175_0 (a0_0 : ByteArray) (a0_1 : Int) : Pu Tryd.prog (xV (Instr.build 175 #[(0, (Value.agg #[(Value.string a0_0), (Value.int .i64 a0_1)]))])) (.agg #[(Value.string a0_0), (Value.int .i64 a0_1)]) := Pu.ok fun w => by kernel_rfl
theorem pu_mki_141_175 (x : Ttree_decl) : Pu Tryd.prog (xV (Instr.makeInterface 175 (.agg #[(Value.string x.fDecl.fName), (Value.int .i64 x.fDecl.fSize)]))) (vItree_node (Itree_node.c_tree_decl x)) := Pu.ok fun w => rfl
theorem pu_bld_177_0 (a0_0 : Int) (a0_1 : ByteArray) (a0_2a : Option Addr) (a0_2n a0_2c : Nat) (a0_3a : Option Addr) (a0_3n a0_3c : Nat) (a0_4a : Option Addr) (a0_4n a0_4c : Nat) (a0_5a : Option Addr) (a0_5n a0_5c : Nat) : Pu Tryd.prog (xV (Instr.build 177 #[(0, (Value.agg #[(Value.int .i64 a0_0), (Value.string a0_1), (Value.slice a0_2a a0_2n a0_2c), (Value.slice a0_3a a0_3n a0_3c), (Value.slice a0_4a a0_4n a0_4c), (Value.slice a0_5a a0_5n a0_5c)]))])) (.agg #[(Value.int .i64 a0_0), (Value.string a0_1), (Value.slice a0_2a a0_2n a0_2c), (Value.slice a0_3a a0_3n a0_3c), (Value.slice a0_4a a0_4n a0_4c), (Value.slice a0_5a a0_5n a0_5c)]) := Pu.ok fun w => by kernel_rfl
theorem pu_mki_141_177 (x : Ttree_stmt) : Pu Tryd.prog (xV (Instr.makeInterface 177 (.agg #[(Value.int .i64 x.fStmt.fKind), (Value.string x.fStmt.fName), (Value.slice x.fStmt.fExprs.a x.fStmt.fExprs.n x.fStmt.fExprs.c), (Value.slice x.fStmt.fConds.a x.fStmt.fConds.n x.fStmt.fConds.c), (Value.slice x.fStmt.fThen.a x.fStmt.fThen.n x.fStmt.fThen.c), (Value.slice x.fStmt.fElse.a x.fStmt.fElse.n x.fStmt.fElse.c)]))) (vItree_node (Itree_node.c_tree_stmt x)) := Pu.ok fun w => rfl
theorem pu_cv_2_41 (k : IntKind) (n : Int) : Pu Tryd.prog (xV (convert 2 41 (.int k n))) (.int .u64 (IntKind.wrap .u64 n)) := Pu.ok fun w => run_convert_int (P := Tryd.prog) (w := w) 2 41 k n (by rw [Tryd.underlying2]; rfl) Tryd.underlying41
theorem pu_bld_33_0_1 (a0 : Int) (a1 : Int) : Pu Tryd.prog (xV (Instr.build 33 #[(0, (Value.int .i64 a0)), (1, (Value.int .i64 a1))])) (.agg #[(Value.int .i64 a0), (Value.int .i64 a1), (Value.slice none 0 0), (Value.slice none 0 0)]) := Pu.ok fun w => by kernel_rfl
theorem inf_30 : Tryd.prog.info? 30 = some ((Tryd.prog.info? 30).getD default) := by kernel_rfl
theorem app_28 {E : Pan} {w0 w : World} {ps : Nat → Prop} {H0 H : Hp} {Fs : List Frag} {K : Value → World → Prop} {s : Sl} {xs : List Tapi_Expr} {F : Frag} {t2 : Sl} {ys : List Tapi_Expr} {ks : List Bool} {ty : TypeId} (I : Inv w0 ps H0 H (F :: Fs) w) (hr : RowL 30 4 cs_api_Expr s xs F) (hs : SrcO w cs_api_Expr t2 ys) (hb : (xs.length + ys.length) * 57 ≤ 140737488355328) (h : ∀ (s' : Sl) (F' : Frag) (w' : World), RowL 30 4 cs_api_Expr s' (xs ++ ys) F' → Inv w0 ps H0 H (F' :: Fs) w' → (∀ k, k < w.heap.size → (∀ p ∈ F, p.1 ≠ k) → w'.heap[k]? = w.heap[k]?) → K (.slice s'.a s'.n s'.c) w') : opK Tryd.prog E (xBuiltin .append #[28, 28] ty ks [.slice s.a s.n s.c, .slice t2.a t2.n t2.c]) w K :=
  s_app (bytes := 56) Tryd.underlying28 inf_30 (z := (Value.agg #[(Value.int .i64 0), (Value.int .i64 0), (Value.string ⟨#[]⟩), (Value.slice none 0 0)])) (by kernel_rfl) (by kernel_rfl) (by kernel_rfl) (by kernel_rfl) I hr hs hb h
theorem pu_bld_30_0_1_2 (a0 : Int) (a1 : Int) (a2 : ByteArray) : Pu Tryd.prog (xV (Instr.build 30 #[(0, (Value.int .i64 a0)), (1, (Value.int .i64 a1)), (2, (Value.string a2))])) (.agg #[(Value.int .i64 a0), (Value.int .i64 a1), (Value.string a2), (Value.slice none 0 0)]) := Pu.ok fun w => by kernel_rfl
theorem pu_ta_141_175 (x : Itree_node) : Pu Tryd.prog (xV (Instr.typeAssert (vItree_node x) 141 175 true)) (.tuple #[(Value.agg #[(Value.string ((((x.as_c_tree_decl)).fDecl).fName)), (Value.int .i64 ((((x.as_c_tree_decl)).fDecl).fSize))]), .bool (x.is_c_tree_decl)]) := by
  cases x <;> exact Pu.ok fun w => by kernel_rfl
theorem pu_fa_175_0 {g o : Nat} : Pu Tryd.prog (xV (Instr.fieldAt 175 (.pointer (some ⟨g, o, none⟩)) 0)) (.pointer (some ⟨g, o + 0, none⟩)) := Pu.ok fun w => by kernel_rfl
theorem pu_ta_141_177 (x : Itree_node) : Pu Tryd.prog (xV (Instr.typeAssert (vItree_node x) 141 177 true)) (.tuple #[(Value.agg #[(Value.int .i64 ((((x.as_c_tree_stmt)).fStmt).fKind)), (Value.string ((((x.as_c_tree_stmt)).fStmt).fName)), (Value.slice ((((x.as_c_tree_stmt)).fStmt).fExprs).a ((((x.as_c_tree_stmt)).fStmt).fExprs).n ((((x.as_c_tree_stmt)).fStmt).fExprs).c), (Value.slice ((((x.as_c_tree_stmt)).fStmt).fConds).a ((((x.as_c_tree_stmt)).fStmt).fConds).n ((((x.as_c_tree_stmt)).fStmt).fConds).c), (Value.slice ((((x.as_c_tree_stmt)).fStmt).fThen).a ((((x.as_c_tree_stmt)).fStmt).fThen).n ((((x.as_c_tree_stmt)).fStmt).fThen).c), (Value.slice ((((x.as_c_tree_stmt)).fStmt).fElse).a ((((x.as_c_tree_stmt)).fStmt).fElse).n ((((x.as_c_tree_stmt)).fStmt).fElse).c)]), .bool (x.is_c_tree_stmt)]) := by
  cases x <;> exact Pu.ok fun w => by kernel_rfl
theorem pu_fa_177_0 {g o : Nat} : Pu Tryd.prog (xV (Instr.fieldAt 177 (.pointer (some ⟨g, o, none⟩)) 0)) (.pointer (some ⟨g, o + 0, none⟩)) := Pu.ok fun w => by kernel_rfl
theorem pu_ta_141_96 (x : Itree_node) : Pu Tryd.prog (xV (Instr.typeAssert (vItree_node x) 141 96 true)) (.tuple #[(Value.agg #[(Value.int .i64 ((((x.as_c_tree_expr)).fExpr).fKind)), (Value.int .i64 ((((x.as_c_tree_expr)).fExpr).fNum)), (Value.string ((((x.as_c_tree_expr)).fExpr).fName)), (Value.slice ((((x.as_c_tree_expr)).fExpr).fArgs).a ((((x.as_c_tree_expr)).fExpr).fArgs).n ((((x.as_c_tree_expr)).fExpr).fArgs).c)]), .bool (x.is_c_tree_expr)]) := by
  cases x <;> exact Pu.ok fun w => by kernel_rfl
theorem pu_fa_96_0 {g o : Nat} : Pu Tryd.prog (xV (Instr.fieldAt 96 (.pointer (some ⟨g, o, none⟩)) 0)) (.pointer (some ⟨g, o + 0, none⟩)) := Pu.ok fun w => by kernel_rfl
theorem pu_cv_5_3 (k : IntKind) (n : Int) : Pu Tryd.prog (xV (convert 5 3 (.int k n))) (.int .i64 (IntKind.wrap .i64 n)) := Pu.ok fun w => run_convert_int (P := Tryd.prog) (w := w) 5 3 k n (by rw [Tryd.underlying5]; rfl) Tryd.underlying3
theorem pu_fa_106_0 {g o : Nat} : Pu Tryd.prog (xV (Instr.fieldAt 106 (.pointer (some ⟨g, o, none⟩)) 0)) (.pointer (some ⟨g, o + 0, none⟩)) := Pu.ok fun w => by kernel_rfl
theorem pu_bld_209_0_1 (a0 : Int) (a1 : Int) : Pu Tryd.prog (xV (Instr.build 209 #[(0, (Value.int .i64 a0)), (1, (Value.int .i64 a1))])) (.agg #[(Value.int .i64 a0), (Value.int .i64 a1)]) := Pu.ok fun w => by kernel_rfl
theorem equ_209 (d : Nat) (a0 b0 : Int) (a1 b1 : Int) (w : World) : (Op.equalIn (d + 2) 209 (.agg #[(Value.int .i64 a0), (Value.int .i64 a1)]) (.agg #[(Value.int .i64 b0), (Value.int .i64 b1)])).run Tryd.prog w = .ok (decide (a0 = b0 ∧ a1 = b1)) w := by
  have u3 := Tryd.underlying3
  have i3 := Tryd.isAgg3
  have s3 := Tryd.sizeOf3
  have hS : Tryd.prog.underlying 209 = some (.struct (Tryd.prog.fieldsOf 209)) := by kernel_rfl
  rw [run_equalIn_agg w (d + 1) 209 _ _ hS (by kernel_rfl)]
  simp only [Program.fieldsOf, Tryd.underlying209]
  go_simp
  try simp only [bytes_tl]
  by_cases h0 : a0 = b0
  · by_cases h1 : a1 = b1
    · simp [h0, h1]
    · simp [h0, h1]
  · simp [h0]
theorem pu_eq_209 (x y : Operand) (a0 b0 : Int) (a1 b1 : Int) : Pu Tryd.prog (xBin .eql 209 x y (.agg #[(Value.int .i64 a0), (Value.int .i64 a1)]) (.agg #[(Value.int .i64 b0), (Value.int .i64 b1)])) (.bool (decide (a0 = b0 ∧ a1 = b1))) := by
  refine Pu.ok (s := do eqGuard .eql 209 x y (.agg #[(Value.int .i64 a0), (Value.int .i64 a1)]) (.agg #[(Value.int .i64 b0), (Value.int .i64 b1)]); binOp .eql 209 (.agg #[(Value.int .i64 a0), (Value.int .i64 a1)]) (.agg #[(Value.int .i64 b0), (Value.int .i64 b1)])) fun w => ?_
  rw [Sem.run_bind, run_eqGuard_agg w _ _ _ _ _ _ (by kernel_rfl), Result.andThen_ok, run_eql_struct, show (10000 : Nat) = 9998 + 2 from rfl, equ_209]
  rfl
theorem pu_ne_209 (x y : Operand) (a0 b0 : Int) (a1 b1 : Int) : Pu Tryd.prog (xBin .neq 209 x y (.agg #[(Value.int .i64 a0), (Value.int .i64 a1)]) (.agg #[(Value.int .i64 b0), (Value.int .i64 b1)])) (.bool (!decide (a0 = b0 ∧ a1 = b1))) := by
  refine Pu.ok (s := do eqGuard .neq 209 x y (.agg #[(Value.int .i64 a0), (Value.int .i64 a1)]) (.agg #[(Value.int .i64 b0), (Value.int .i64 b1)]); binOp .neq 209 (.agg #[(Value.int .i64 a0), (Value.int .i64 a1)]) (.agg #[(Value.int .i64 b0), (Value.int .i64 b1)])) fun w => ?_
  rw [Sem.run_bind, run_eqGuard_agg w _ _ _ _ _ _ (by kernel_rfl), Result.andThen_ok, run_neq_struct, show (10000 : Nat) = 9998 + 2 from rfl, equ_209]
  rfl
theorem pu_bld_209  : Pu Tryd.prog (xV (Instr.build 209 #[])) (.agg #[(Value.int .i64 0), (Value.int .i64 0)]) := Pu.ok fun w => by kernel_rfl
theorem pu_bld_213_0_1 (a0 : Int) (a1 : Int) : Pu Tryd.prog (xV (Instr.build 213 #[(0, (Value.int .i64 a0)), (1, (Value.int .i64 a1))])) (.agg #[(Value.int .i64 a0), (Value.int .i64 a1)]) := Pu.ok fun w => by kernel_rfl
theorem equ_213 (d : Nat) (a0 b0 : Int) (a1 b1 : Int) (w : World) : (Op.equalIn (d + 2) 213 (.agg #[(Value.int .i64 a0), (Value.int .i64 a1)]) (.agg #[(Value.int .i64 b0), (Value.int .i64 b1)])).run Tryd.prog w = .ok (decide (a0 = b0 ∧ a1 = b1)) w := by
  have u3 := Tryd.underlying3
  have i3 := Tryd.isAgg3
  have s3 := Tryd.sizeOf3
  have hS : Tryd.prog.underlying 213 = some (.struct (Tryd.prog.fieldsOf 213)) := by kernel_rfl
  rw [run_equalIn_agg w (d + 1) 213 _ _ hS (by kernel_rfl)]
  simp only [Program.fieldsOf, Tryd.underlying213]
  go_simp
  try simp only [bytes_tl]
  by_cases h0 : a0 = b0
  · by_cases h1 : a1 = b1
    · simp [h0, h1]
    · simp [h0, h1]
  · simp [h0]
theorem pu_eq_213 (x y : Operand) (a0 b0 : Int) (a1 b1 : Int) : Pu Tryd.prog (xBin .eql 213 x y (.agg #[(Value.int .i64 a0), (Value.int .i64 a1)]) (.agg #[(Value.int .i64 b0), (Value.int .i64 b1)])) (.bool (decide (a0 = b0 ∧ a1 = b1))) := by
  refine Pu.ok (s := do eqGuard .eql 213 x y (.agg #[(Value.int .i64 a0), (Value.int .i64 a1)]) (.agg #[(Value.int .i64 b0), (Value.int .i64 b1)]); binOp .eql 213 (.agg #[(Value.int .i64 a0), (Value.int .i64 a1)]) (.agg #[(Value.int .i64 b0), (Value.int .i64 b1)])) fun w => ?_
  rw [Sem.run_bind, run_eqGuard_agg w _ _ _ _ _ _ (by kernel_rfl), Result.andThen_ok, run_eql_struct, show (10000 : Nat) = 9998 + 2 from rfl, equ_213]
  rfl
theorem pu_ne_213 (x y : Operand) (a0 b0 : Int) (a1 b1 : Int) : Pu Tryd.prog (xBin .neq 213 x y (.agg #[(Value.int .i64 a0), (Value.int .i64 a1)]) (.agg #[(Value.int .i64 b0), (Value.int .i64 b1)])) (.bool (!decide (a0 = b0 ∧ a1 = b1))) := by
  refine Pu.ok (s := do eqGuard .neq 213 x y (.agg #[(Value.int .i64 a0), (Value.int .i64 a1)]) (.agg #[(Value.int .i64 b0), (Value.int .i64 b1)]); binOp .neq 213 (.agg #[(Value.int .i64 a0), (Value.int .i64 a1)]) (.agg #[(Value.int .i64 b0), (Value.int .i64 b1)])) fun w => ?_
  rw [Sem.run_bind, run_eqGuard_agg w _ _ _ _ _ _ (by kernel_rfl), Result.andThen_ok, run_neq_struct, show (10000 : Nat) = 9998 + 2 from rfl, equ_213]
  rfl
theorem pu_bld_213  : Pu Tryd.prog (xV (Instr.build 213 #[])) (.agg #[(Value.int .i64 0), (Value.int .i64 0)]) := Pu.ok fun w => by kernel_rfl
theorem bs_172_4 (a0a : Option Addr) (a0n a0c : Nat) (a1a : Option Addr) (a1n a1c : Nat) (a2a : Option Addr) (a2n a2c : Nat) (a3a : Option Addr) (a3n a3c : Nat) (w : World) : (Instr.buildSlice 172 4 #[(0, (Value.slice a0a a0n a0c)), (1, (Value.slice a1a a1n a1c)), (2, (Value.slice a2a a2n a2c)), (3, (Value.slice a3a a3n a3c))]).run Tryd.prog w = .ok (.slice (some ⟨w.heap.size, 0, none⟩) 4 4) (w.alloc (.cells [(Value.slice a0a a0n a0c), (Value.slice a1a a1n a1c), (Value.slice a2a a2n a2c), (Value.slice a3a a3n a3c)].toArray 97)) := by kernel_rfl
theorem inf_88 : Tryd.prog.info? 88 = some ((Tryd.prog.info? 88).getD default) := by kernel_rfl
theorem app_23 {E : Pan} {w0 w : World} {ps : Nat → Prop} {H0 H : Hp} {Fs : List Frag} {K : Value → World → Prop} {s : Sl} {xs : List Tapi_Stmt} {F : Frag} {t2 : Sl} {ys : List Tapi_Stmt} {ks : List Bool} {ty : TypeId} (I : Inv w0 ps H0 H (F :: Fs) w) (hr : RowL 88 6 cs_api_Stmt s xs F) (hs : SrcO w cs_api_Stmt t2 ys) (hb : (xs.length + ys.length) * 121 ≤ 140737488355328) (h : ∀ (s' : Sl) (F' : Frag) (w' : World), RowL 88 6 cs_api_Stmt s' (xs ++ ys) F' → Inv w0 ps H0 H (F' :: Fs) w' → (∀ k, k < w.heap.size → (∀ p ∈ F, p.1 ≠ k) → w'.heap[k]? = w.heap[k]?) → K (.slice s'.a s'.n s'.c) w') : opK Tryd.prog E (xBuiltin .append #[23, 23] ty ks [.slice s.a s.n s.c, .slice t2.a t2.n t2.c]) w K :=
  s_app (bytes := 120) Tryd.underlying23 inf_88 (z := (Value.agg #[(Value.int .i64 0), (Value.string ⟨#[]⟩), (Value.slice none 0 0), (Value.slice none 0 0), (Value.slice none 0 0), (Value.slice none 0 0)])) (by kernel_rfl) (by kernel_rfl) (by kernel_rfl) (by kernel_rfl) I hr hs hb h
abbrev cs_api_Prog (x : Tapi_Prog) : List Value := [(Value.slice x.fDecls.a x.fDecls.n x.fDecls.c), (Value.slice x.fBody.a x.fBody.n x.fBody.c)]
theorem cs_api_Prog_l (x : Tapi_Prog) : (cs_api_Prog x).length = 2 := rfl
theorem cs_api_Prog_o (x : Tapi_Prog) : (cs_api_Prog x).all (·.oneCell') = true := rfl
abbrev cs_tree_expr (x : Ttree_expr) : List Value := [(Value.int .i64 x.fExpr.fKind), (Value.int .i64 x.fExpr.fNum), (Value.string x.fExpr.fName), (Value.slice x.fExpr.fArgs.a x.fExpr.fArgs.n x.fExpr.fArgs.c)]
theorem cs_tree_expr_l (x : Ttree_expr) : (cs_tree_expr x).length = 4 := rfl
theorem cs_tree_expr_o (x : Ttree_expr) : (cs_tree_expr x).all (·.oneCell') = true := rfl
abbrev cs_tree_walker (x : Ttree_walker) : List Value := [(Value.int .i64 x.fnodes), (Value.int .i64 x.fdepth), (Value.int .i64 x.fe), (Value.bool x.fform), (Value.bool x.fnamed), (Value.slice x.fnames.a x.fnames.n x.fnames.c)]
theorem cs_tree_walker_l (x : Ttree_walker) : (cs_tree_walker x).length = 6 := rfl
theorem cs_tree_walker_o (x : Ttree_walker) : (cs_tree_walker x).all (·.oneCell') = true := rfl
abbrev cs_gnomonref3_walk (x : Tgnomonref3_walk) : List Value := [(Value.int .i64 x.fn), (Value.int .i64 x.fdepth), (Value.int .i64 x.fbad)]
theorem cs_gnomonref3_walk_l (x : Tgnomonref3_walk) : (cs_gnomonref3_walk x).length = 3 := rfl
theorem cs_gnomonref3_walk_o (x : Tgnomonref3_walk) : (cs_gnomonref3_walk x).all (·.oneCell') = true := rfl
abbrev cs_gnomonref3_form (x : Tgnomonref3_form) : List Value := [(Value.bool x.fok), (Value.bool x.fnames)]
theorem cs_gnomonref3_form_l (x : Tgnomonref3_form) : (cs_gnomonref3_form x).length = 2 := rfl
theorem cs_gnomonref3_form_o (x : Tgnomonref3_form) : (cs_gnomonref3_form x).all (·.oneCell') = true := rfl
abbrev cs_tree_cond (x : Ttree_cond) : List Value := [(Value.int .i64 x.fCond.fKind), (Value.int .i64 x.fCond.fOp), (Value.slice x.fCond.fExprs.a x.fCond.fExprs.n x.fCond.fExprs.c), (Value.slice x.fCond.fParts.a x.fCond.fParts.n x.fCond.fParts.c)]
theorem cs_tree_cond_l (x : Ttree_cond) : (cs_tree_cond x).length = 4 := rfl
theorem cs_tree_cond_o (x : Ttree_cond) : (cs_tree_cond x).all (·.oneCell') = true := rfl
abbrev cs_well_walker (x : Twell_walker) : List Value := [(Value.slice x.fl.a x.fl.n x.fl.c)]
theorem cs_well_walker_l (x : Twell_walker) : (cs_well_walker x).length = 1 := rfl
theorem cs_well_walker_o (x : Twell_walker) : (cs_well_walker x).all (·.oneCell') = true := rfl
abbrev cs_tree_decl (x : Ttree_decl) : List Value := [(Value.string x.fDecl.fName), (Value.int .i64 x.fDecl.fSize)]
theorem cs_tree_decl_l (x : Ttree_decl) : (cs_tree_decl x).length = 2 := rfl
theorem cs_tree_decl_o (x : Ttree_decl) : (cs_tree_decl x).all (·.oneCell') = true := rfl
abbrev cs_tree_stmt (x : Ttree_stmt) : List Value := [(Value.int .i64 x.fStmt.fKind), (Value.string x.fStmt.fName), (Value.slice x.fStmt.fExprs.a x.fStmt.fExprs.n x.fStmt.fExprs.c), (Value.slice x.fStmt.fConds.a x.fStmt.fConds.n x.fStmt.fConds.c), (Value.slice x.fStmt.fThen.a x.fStmt.fThen.n x.fStmt.fThen.c), (Value.slice x.fStmt.fElse.a x.fStmt.fElse.n x.fStmt.fElse.c)]
theorem cs_tree_stmt_l (x : Ttree_stmt) : (cs_tree_stmt x).length = 6 := rfl
theorem cs_tree_stmt_o (x : Ttree_stmt) : (cs_tree_stmt x).all (·.oneCell') = true := rfl
abbrev cs_tree_has (x : Ttree_has) : List Value := [(Value.int .i64 x.fexprs), (Value.int .i64 x.fparts)]
theorem cs_tree_has_l (x : Ttree_has) : (cs_tree_has x).length = 2 := rfl
theorem cs_tree_has_o (x : Ttree_has) : (cs_tree_has x).all (·.oneCell') = true := rfl
end Go.Proofs.YthldnpmfelniiaaDoor
