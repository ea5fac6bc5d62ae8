/-
  What single operations come to, said of the second reading (E0): equations for simp and rules for refine. No program in sight.
-/
import Derived.Test.YtpdeflgmldomeaaDoorE0
import Derived.Laws.World
import Derived.WalkKit
namespace Go.Proofs.YtpdeflgmldomeaaDoor
open Go.RowKit
section
variable {P : Program} {w : World} {K : Value → World → Prop}

theorem opK_ok {s : Sem Value} {v : Value} {w' : World} (h : s.run P w = .ok v w') : opK P (xV s) w K = K v w' := by
  unfold opK xV
  rw [Sem.run_bind, h]
  rfl
theorem opK_okU {s : Sem Unit} {w' : World} (h : s.run P w = .ok () w') : opK P (xU s) w K = K undef w' := by
  unfold opK xU
  rw [Sem.run_bind, h]
  rfl
theorem opK_pure (v : Value) : opK P (pure (.value v)) w K = K v w := rfl
theorem opK_call {s : Sem Next} {f : FuncId} {args : Array Value} {w' : World} (h : s.run P w = .ok (.enter f args) w') : opK P s w K = Cv P f args w' K := by
  unfold opK
  rw [h]

/-! ## arithmetic -/
theorem wrap_in (k : Int) (h1 : -9223372036854775808 ≤ k) (h2 : k ≤ 9223372036854775807) : IntKind.i64.wrap k = k := by
  have e1 : ((2 : Int) ^ (64 : Nat)) = 18446744073709551616 := by decide
  have e2 : ((2 : Int) ^ (63 : Nat)) = 9223372036854775808 := by decide
  simp only [IntKind.wrap, IntKind.signed, IntKind.bits, Nat.reduceSub, e1, e2, Bool.true_and, decide_eq_true_eq, ge_iff_le]
  split <;> omega
theorem xBin_int (op : BinOp) (t : TypeId) (x y : Operand) (k : IntKind) (a b : Int) :
    xBin op t x y (.int k a) (.int k b) = xV (binOp op t (.int k a) (.int k b)) := by
  unfold xBin xV eqGuard
  cases op <;> rfl
theorem opK_lss (t : TypeId) (x y : Operand) (k : IntKind) (a b : Int) : opK P (xBin .lss t x y (.int k a) (.int k b)) w K = K (.bool (decide (a < b))) w := by
  rw [xBin_int]; exact opK_ok (by simp [binOp, Op.intCmp])
theorem opK_leq (t : TypeId) (x y : Operand) (k : IntKind) (a b : Int) : opK P (xBin .leq t x y (.int k a) (.int k b)) w K = K (.bool (decide (a ≤ b))) w := by
  rw [xBin_int]; exact opK_ok (by simp [binOp, Op.intCmp])
theorem opK_gtr (t : TypeId) (x y : Operand) (k : IntKind) (a b : Int) : opK P (xBin .gtr t x y (.int k a) (.int k b)) w K = K (.bool (decide (b < a))) w := by
  rw [xBin_int]; exact opK_ok (by simp [binOp, Op.intCmp])
theorem opK_geq (t : TypeId) (x y : Operand) (k : IntKind) (a b : Int) : opK P (xBin .geq t x y (.int k a) (.int k b)) w K = K (.bool (decide (b ≤ a))) w := by
  rw [xBin_int]; exact opK_ok (by simp [binOp, Op.intCmp])
theorem opK_eql (t : TypeId) (x y : Operand) (k : IntKind) (a b : Int) : opK P (xBin .eql t x y (.int k a) (.int k b)) w K = K (.bool (decide (a = b))) w := by
  rw [xBin_int]; exact opK_ok (by simp [binOp, Op.intCmp]; rfl)
theorem opK_neq (t : TypeId) (x y : Operand) (k : IntKind) (a b : Int) : opK P (xBin .neq t x y (.int k a) (.int k b)) w K = K (.bool (decide (a ≠ b))) w := by
  rw [xBin_int]; exact opK_ok (by simp [binOp, Op.intCmp]; rw [Bool.eq_iff_iff]; simp)
theorem opK_add' (t : TypeId) (x y : Operand) (k : IntKind) (a b : Int) : opK P (xBin .add t x y (.int k a) (.int k b)) w K = K (.int k (k.wrap (a + b))) w := by
  rw [xBin_int]; exact opK_ok (by simp [binOp, Op.intArith])
theorem opK_sub' (t : TypeId) (x y : Operand) (k : IntKind) (a b : Int) : opK P (xBin .sub t x y (.int k a) (.int k b)) w K = K (.int k (k.wrap (a - b))) w := by
  rw [xBin_int]; exact opK_ok (by simp [binOp, Op.intArith])
theorem opK_mul' (t : TypeId) (x y : Operand) (k : IntKind) (a b : Int) : opK P (xBin .mul t x y (.int k a) (.int k b)) w K = K (.int k (k.wrap (a * b))) w := by
  rw [xBin_int]; exact opK_ok (by simp [binOp, Op.intArith])
theorem opK_add (t : TypeId) (x y : Operand) (a b : Int) (h1 : -9223372036854775808 ≤ a + b) (h2 : a + b ≤ 9223372036854775807) : opK P (xBin .add t x y (.int .i64 a) (.int .i64 b)) w K = K (.int .i64 (a + b)) w := by
  rw [opK_add', wrap_in _ h1 h2]
theorem opK_sub (t : TypeId) (x y : Operand) (a b : Int) (h1 : -9223372036854775808 ≤ a - b) (h2 : a - b ≤ 9223372036854775807) : opK P (xBin .sub t x y (.int .i64 a) (.int .i64 b)) w K = K (.int .i64 (a - b)) w := by
  rw [opK_sub', wrap_in _ h1 h2]
theorem opK_mul (t : TypeId) (x y : Operand) (a b : Int) (h1 : -9223372036854775808 ≤ a * b) (h2 : a * b ≤ 9223372036854775807) : opK P (xBin .mul t x y (.int .i64 a) (.int .i64 b)) w K = K (.int .i64 (a * b)) w := by
  rw [opK_mul', wrap_in _ h1 h2]
theorem opK_not (b : Bool) : opK P (xV (Op.unary .not (.bool b))) w K = K (.bool !b) w := opK_ok (by simp [Op.unary])
theorem opK_neg' (k : IntKind) (n : Int) : opK P (xV (Op.unary .neg (.int k n))) w K = K (.int k (k.wrap (0 - n))) w := opK_ok (by simp [Op.unary, Op.intArith])
theorem opK_conv (s d : TypeId) (k : IntKind) (n : Int) (hs : (P.underlying s).isSome = true) (hd : P.underlying d = some (.int (P.intKind d))) :
    opK P (xV (convert s d (.int k n))) w K = K (.int (P.intKind d) ((P.intKind d).wrap n)) w := opK_ok (run_convert_int (P := P) (w := w) s d k n hs hd)
theorem opK_conv64 (s d : TypeId) (k : IntKind) (n : Int) (hs : (P.underlying s).isSome = true) (hd : P.underlying d = some (.int .i64)) (h1 : -9223372036854775808 ≤ n) (h2 : n ≤ 9223372036854775807) :
    opK P (xV (convert s d (.int k n))) w K = K (.int .i64 n) w := by
  have e : P.intKind d = .i64 := by simp [Program.intKind, hd]
  rw [opK_conv s d k n hs (by rw [e]; exact hd), e, wrap_in n h1 h2]
theorem opK_pick (b : Bool) (x y : Value) : opK P (xPick (.bool b) x y) w K = K (bif b then x else y) w := by
  unfold opK xPick asBool
  cases b <;> rfl
theorem opK_extract (vs : Array Value) (i : Nat) (v : Value) (h : vs[i]? = some v) : opK P (xV (Instr.extract (.tuple vs) i)) w K = K v w := opK_ok (by simp [Instr.extract, h])
theorem opK_makeFunc (fn : Fn) (a b : Array Value) : opK P (xV (Instr.makeFunc fn a b)) w K = K (.func fn a b) w := opK_ok (by simp [Instr.makeFunc])
theorem opK_index_str (t : TypeId) (s : ByteArray) (k : IntKind) (i : Int) (ht : P.underlying t = some .string) (h0 : 0 ≤ i) (hi : i < s.size) :
    opK P (xV (Instr.index t (.string s) (.int k i))) w K = K (.int .u8 ((s.get! i.toNat).toNat : Int)) w := by
  refine opK_ok ?_
  have hi' : i.toNat < s.size := by omega
  rw [run_index_string (P := P) (w := w) t s k i ht, dif_pos ⟨h0, hi⟩]
  have e : s[i.toNat]'(by omega) = s.get! i.toNat := by
    obtain ⟨⟨l⟩⟩ := s
    have hi' : i.toNat < l.length := hi'
    simp [ByteArray.get!, hi', ByteArray.getElem_eq_getElem_data]
  rw [e]
theorem toNat_add (p k : Nat) : ((p : Int) + (k : Int)).toNat = p + k := by omega
theorem toNat_add1 (p : Nat) : ((p : Int) + 1).toNat = p + 1 := by omega
theorem opK_len_str (t ty : TypeId) (s : ByteArray) (ht : P.underlying t = some .string) : opK P (xBuiltin .len #[t] ty [false] [.string s]) w K = K (.int .i64 (s.size : Int)) w := by
  have : xBuiltin .len #[t] ty [false] [.string s] = xV (Builtin.len_ #[t] ty #[.string s]) := rfl
  rw [this]
  exact opK_ok (run_len_string (P := P) (w := w) t ty s ht)

/-! ## tests that the context decides -/
theorem asB_bool (b : Bool) : asB (.bool b) = some b := rfl
theorem asB_undef : asB undef = none := rfl
theorem gsem_11 (s : Sem Next) : gsem (some true) true s = s := rfl
theorem gsem_10 (s : Sem Next) : gsem (some true) false s = pure (.value undef) := rfl
theorem gsem_01 (s : Sem Next) : gsem (some false) true s = pure (.value undef) := rfl
theorem gsem_00 (s : Sem Next) : gsem (some false) false s = s := rfl
theorem gsem_n (b : Bool) (s : Sem Next) : gsem none b s = pure (.value undef) := by cases b <;> rfl
theorem gval_11 (s : Value) : gval (some true) true s = s := rfl
theorem gval_10 (s : Value) : gval (some true) false s = undef := rfl
theorem gval_01 (s : Value) : gval (some false) true s = undef := rfl
theorem gval_00 (s : Value) : gval (some false) false s = s := rfl
theorem gval_n (b : Bool) (s : Value) : gval none b s = undef := by cases b <;> rfl
theorem xcond_1 {A B : Prop} : xcond (.bool true) A B = A := rfl
theorem xcond_0 {A B : Prop} : xcond (.bool false) A B = B := rfl
theorem xcond_t {p : Prop} [Decidable p] {A B : Prop} (h : p) : xcond (.bool (decide p)) A B = A := by simp [xcond, h]
theorem xcond_f {p : Prop} [Decidable p] {A B : Prop} (h : ¬ p) : xcond (.bool (decide p)) A B = B := by simp [xcond, h]
theorem xcond_dec {p : Prop} [Decidable p] {A B : Prop} (h1 : p → A) (h2 : ¬ p → B) : xcond (.bool (decide p)) A B := by
  by_cases h : p
  · rw [xcond_t h]; exact h1 h
  · rw [xcond_f h]; exact h2 h
theorem xcond_b {b : Bool} {A B : Prop} (h1 : b = true → A) (h2 : b = false → B) : xcond (.bool b) A B := by
  cases b
  · exact h2 rfl
  · exact h1 rfl
theorem opK_gdec {p : Prop} [Decidable p] {want : Bool} {s : Sem Next} (h1 : p → opK P (gsem (some (decide p)) want s) w K) (h2 : ¬ p → opK P (gsem (some (decide p)) want s) w K) : opK P (gsem (some (decide p)) want s) w K := by
  by_cases h : p
  · exact h1 h
  · exact h2 h
theorem nth_0 (v : Value) (l : List Value) : nth (v :: l) 0 = v := rfl
theorem nth_s (v : Value) (l : List Value) (n : Nat) : nth (v :: l) (n + 1) = nth l n := rfl
theorem dec_t {p : Prop} [Decidable p] (h : p) : decide p = true := by simp [h]
theorem dec_f {p : Prop} [Decidable p] (h : ¬ p) : decide p = false := by simp [h]
theorem xcond_split' {b : Bool} {A B : Prop} (h1 : b = true → A) (h2 : b = false → B) : xcond (.bool b) A B := by
  cases b
  · exact h2 rfl
  · exact h1 rfl
theorem gval_t (p : Prop) [Decidable p] (want : Bool) (x : Value) (h : p) : gval (some (decide p)) want x = bif want then x else undef := by
  cases want <;> simp [gval, h]
theorem gval_f (p : Prop) [Decidable p] (want : Bool) (x : Value) (h : ¬ p) : gval (some (decide p)) want x = bif want then undef else x := by
  cases want <;> simp [gval, h]
theorem gsem_t (p : Prop) [Decidable p] (want : Bool) (x : Sem Next) (h : p) : gsem (some (decide p)) want x = bif want then x else pure (.value undef) := by
  cases want <;> simp [gsem, h]
theorem gsem_f (p : Prop) [Decidable p] (want : Bool) (x : Sem Next) (h : ¬ p) : gsem (some (decide p)) want x = bif want then pure (.value undef) else x := by
  cases want <;> simp [gsem, h]
theorem pick_t (p : Prop) [Decidable p] (x y : Value) (h : p) : (bif decide p then x else y) = x := by simp [h]
theorem pick_f (p : Prop) [Decidable p] (x y : Value) (h : ¬ p) : (bif decide p then x else y) = y := by simp [h]
end
end Go.Proofs.YtpdeflgmldomeaaDoor
