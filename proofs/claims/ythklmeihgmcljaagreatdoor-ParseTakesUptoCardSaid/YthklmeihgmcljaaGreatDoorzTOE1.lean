/- What single operations come to, said of the second reading (E0): equations for simp and rules for refine. No program in sight. -/
import Derived.Laws.World
import Derived.WalkKit
import Derived.Test.YthklmeihgmcljaaGreatDoorzTOE0
namespace Go.Proofs.YthklmeihgmcljaaGreatDoor.Od
open Go.RowKit
section
variable {P : Program} {w : World} {K : Value → World → Prop}
theorem a1I {s : Sem Value} {v : Value} {w' : World} (h : s.run P w = .ok v w') : opK P (xV s) w K = K v w' := by
 unfold opK xV
 rw [Sem.run_bind, h]
 rfl
theorem b1Y {s : Sem Unit} {w' : World} (h : s.run P w = .ok () w') : opK P (xU s) w K = K undef w' := by
 unfold opK xU
 rw [Sem.run_bind, h]
 rfl
theorem a0s {s : Sem Next} {f : FuncId} {args : Array Value} {w' : World} (h : s.run P w = .ok (.enter f args) w') : opK P s w K = Cv P f args w' K := by
 unfold opK
 rw [h]
theorem b6b (k : Int) (h1 : -9223372036854775808 ≤ k) (h2 : k ≤ 9223372036854775807) : IntKind.i64.wrap k = k := by
 have e1 : ((2 : Int) ^ (64 : Nat)) = 18446744073709551616 := by decide
 have e2 : ((2 : Int) ^ (63 : Nat)) = 9223372036854775808 := by decide
 simp only [IntKind.wrap, IntKind.signed, IntKind.bits, Nat.reduceSub, e1, e2, Bool.true_and, decide_eq_true_eq, ge_iff_le]
 split <;> omega
theorem a1m (op : BinOp) (t : TypeId) (x y : Operand) (k : IntKind) (a b : Int) :
  xBin op t x y (.int k a) (.int k b) = xV (binOp op t (.int k a) (.int k b)) := by
 unfold xBin xV eqGuard
 cases op <;> rfl
theorem b6K (t : TypeId) (x y : Operand) (k : IntKind) (a b : Int) : opK P (xBin .geq t x y (.int k a) (.int k b)) w K = K (.bool (decide (b ≤ a))) w := by
 rw [a1m]; exact a1I (by simp [binOp, Op.intCmp])
theorem b6L (t : TypeId) (x y : Operand) (k : IntKind) (a b : Int) : opK P (xBin .eql t x y (.int k a) (.int k b)) w K = K (.bool (decide (a = b))) w := by
 rw [a1m]; exact a1I (by simp [binOp, Op.intCmp]; rfl)
theorem b9Y (t : TypeId) (x y : Operand) (k : IntKind) (a b : Int) : opK P (xBin .add t x y (.int k a) (.int k b)) w K = K (.int k (k.wrap (a + b))) w := by
 rw [a1m]; exact a1I (by simp [binOp, Op.intArith])
theorem b6M (t : TypeId) (x y : Operand) (a b : Int) (h1 : -9223372036854775808 ≤ a + b) (h2 : a + b ≤ 9223372036854775807) : opK P (xBin .add t x y (.int .i64 a) (.int .i64 b)) w K = K (.int .i64 (a + b)) w := by
 rw [b9Y, b6b _ h1 h2]
theorem b6N (b : Bool) : opK P (xV (Op.unary .not (.bool b))) w K = K (.bool !b) w := a1I (by simp [Op.unary])
theorem a6v (vs : Array Value) (i : Nat) (v : Value) (h : vs[i]? = some v) : opK P (xV (Instr.extract (.tuple vs) i)) w K = K v w := a1I (by simp [Instr.extract, h])
theorem b5c (fn : Fn) (a b : Array Value) : opK P (xV (Instr.makeFunc fn a b)) w K = K (.func fn a b) w := a1I (by simp [Instr.makeFunc])
theorem b0n {A B : Prop} : xcond (.bool true) A B = A := rfl
theorem b0o {A B : Prop} : xcond (.bool false) A B = B := rfl
theorem a1h {b : Bool} {A B : Prop} (h1 : b = true → A) (h2 : b = false → B) : xcond (.bool b) A B := by
 cases b
 ·exact h2 rfl
 ·exact h1 rfl
theorem c1i {p : Prop} [Decidable p] (h : p) : decide p = true := by simp [h]
theorem c1j {p : Prop} [Decidable p] (h : ¬ p) : decide p = false := by simp [h]
end
end Go.Proofs.YthklmeihgmcljaaGreatDoor.Od
