/- What single operations come to, said of the second reading (E0): equations for simp and rules for refine. No program in sight. -/
import Derived.Laws.World
import Derived.WalkKit
import Derived.Test.YtoflkliecagjcaaGreatDooryBOE0
namespace Go.Proofs.YtoflkliecagjcaaGreatDoor.Od
open Go.RowKit
section
variable {P:Program}{w:World}{K:Value→World→Prop}
theorem a1Z{s:Sem Value}{v:Value}{w':World}(h:s.run P w=.ok v w'):opK P (xV s) w K=K v w':=by
 unfold opK xV
 rw [Sem.run_bind,h]
 rfl
theorem b5M{s:Sem Unit}{w':World}(h:s.run P w=.ok () w'):opK P (xU s) w K=K undef w':=by
 unfold opK xU
 rw [Sem.run_bind,h]
 rfl
theorem a0R{s:Sem Next}{f:FuncId}{args:Array Value}{w':World}(h:s.run P w=.ok (.enter f args) w'):opK P s w K=Cv P f args w' K:=by
 unfold opK
 rw [h]
theorem c0f(k:Int)(h1:-9223372036854775808≤k)(h2:k≤9223372036854775807):IntKind.i64.wrap k=k:=by
 have e1:((2:Int) ^ (64:Nat))=18446744073709551616:=by decide
 have e2:((2:Int) ^ (63:Nat))=9223372036854775808:=by decide
 simp only [IntKind.wrap,IntKind.signed,IntKind.bits,Nat.reduceSub,e1,e2,Bool.true_and,decide_eq_true_eq,ge_iff_le]
 split<;>omega
theorem a1K(op:BinOp)(t:TypeId)(x y:Operand)(k:IntKind)(a b:Int):
  xBin op t x y (.int k a) (.int k b)=xV (binOp op t (.int k a) (.int k b)):=by
 unfold xBin xV eqGuard
 cases op<;>rfl
theorem c0U(t:TypeId)(x y:Operand)(k:IntKind)(a b:Int):opK P (xBin .geq t x y (.int k a) (.int k b)) w K=K (.bool (decide (b≤a))) w:=by
 rw [a1K];exact a1Z (by simp [binOp,Op.intCmp])
theorem c0V(t:TypeId)(x y:Operand)(k:IntKind)(a b:Int):opK P (xBin .eql t x y (.int k a) (.int k b)) w K=K (.bool (decide (a=b))) w:=by
 rw [a1K];exact a1Z (by simp [binOp,Op.intCmp];rfl)
theorem c5W(t:TypeId)(x y:Operand)(k:IntKind)(a b:Int):opK P (xBin .add t x y (.int k a) (.int k b)) w K=K (.int k (k.wrap (a+b))) w:=by
 rw [a1K];exact a1Z (by simp [binOp,Op.intArith])
theorem c0W(t:TypeId)(x y:Operand)(a b:Int)(h1:-9223372036854775808≤a+b)(h2:a+b≤9223372036854775807):opK P (xBin .add t x y (.int .i64 a) (.int .i64 b)) w K=K (.int .i64 (a+b)) w:=by
 rw [c5W,c0f _ h1 h2]
theorem c0X(b:Bool):opK P (xV (Op.unary .not (.bool b))) w K=K (.bool !b) w:=a1Z (by simp [Op.unary])
theorem a7U(vs:Array Value)(i:Nat)(v:Value)(h:vs[i]? = some v):opK P (xV (Instr.extract (.tuple vs) i)) w K=K v w:=a1Z (by simp [Instr.extract,h])
theorem b8B(fn:Fn)(a b:Array Value):opK P (xV (Instr.makeFunc fn a b)) w K=K (.func fn a b) w:=a1Z (by simp [Instr.makeFunc])
theorem b3f{A B:Prop}:xcond (.bool true) A B=A:=rfl
theorem b3g{A B:Prop}:xcond (.bool false) A B=B:=rfl
theorem W8{b:Bool}{A B:Prop}(h1:b=true→A)(h2:b=false→B):xcond (.bool b) A B:=by
 cases b
 ·exact h2 rfl
 ·exact h1 rfl
theorem c7B{p:Prop} [Decidable p] (h:p):decide p=true:=by simp [h]
theorem c7C{p:Prop} [Decidable p] (h:¬p):decide p=false:=by simp [h]
end
end Go.Proofs.YtoflkliecagjcaaGreatDoor.Od
