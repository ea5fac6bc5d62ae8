/- What single operations come to, said of the second reading (E0): equations for simp and rules for refine. No program in sight. -/
import Derived.Laws.World
import Derived.WalkKit
import Derived.Test.YthklmeihgmcljaaGreatDoorzEOE0
namespace Go.Proofs.YthklmeihgmcljaaGreatDoor.Od
open Go.RowKit
section
variable {P:Program}{w:World}{K:Value→World→Prop}
theorem a3H{s:Sem Value}{v:Value}{w':World}(h:s.run P w=.ok v w'):opK P (xV s) w K=K v w':=by
 unfold opK xV
 rw [Sem.run_bind,h]
 rfl
theorem b8i{s:Sem Unit}{w':World}(h:s.run P w=.ok () w'):opK P (xU s) w K=K undef w':=by
 unfold opK xU
 rw [Sem.run_bind,h]
 rfl
theorem a2v{s:Sem Next}{f:FuncId}{args:Array Value}{w':World}(h:s.run P w=.ok (.enter f args) w'):opK P s w K=Cv P f args w' K:=by
 unfold opK
 rw [h]
theorem c1C(k:Int)(h1:-9223372036854775808≤k)(h2:k≤9223372036854775807):IntKind.i64.wrap k=k:=by
 have e1:((2:Int) ^ (64:Nat))=18446744073709551616:=by decide
 have e2:((2:Int) ^ (63:Nat))=9223372036854775808:=by decide
 simp only [IntKind.wrap,IntKind.signed,IntKind.bits,Nat.reduceSub,e1,e2,Bool.true_and,decide_eq_true_eq,ge_iff_le]
 split<;>omega
theorem a1J(op:BinOp)(t:TypeId)(x y:Operand)(k:IntKind)(a b:Int):
  xBin op t x y (.int k a) (.int k b)=xV (binOp op t (.int k a) (.int k b)):=by
 unfold xBin xV eqGuard
 cases op<;>rfl
theorem c2Q(t:TypeId)(x y:Operand)(k:IntKind)(a b:Int):opK P (xBin .geq t x y (.int k a) (.int k b)) w K=K (.bool (decide (b≤a))) w:=by
 rw [a1J];exact a3H (by simp [binOp,Op.intCmp])
theorem c2R(t:TypeId)(x y:Operand)(k:IntKind)(a b:Int):opK P (xBin .eql t x y (.int k a) (.int k b)) w K=K (.bool (decide (a=b))) w:=by
 rw [a1J];exact a3H (by simp [binOp,Op.intCmp];rfl)
theorem c7o(t:TypeId)(x y:Operand)(k:IntKind)(a b:Int):opK P (xBin .add t x y (.int k a) (.int k b)) w K=K (.int k (k.wrap (a+b))) w:=by
 rw [a1J];exact a3H (by simp [binOp,Op.intArith])
theorem c2S(t:TypeId)(x y:Operand)(a b:Int)(h1:-9223372036854775808≤a+b)(h2:a+b≤9223372036854775807):opK P (xBin .add t x y (.int .i64 a) (.int .i64 b)) w K=K (.int .i64 (a+b)) w:=by
 rw [c7o,c1C _ h1 h2]
theorem c2T(b:Bool):opK P (xV (Op.unary .not (.bool b))) w K=K (.bool !b) w:=a3H (by simp [Op.unary])
theorem b1u(vs:Array Value)(i:Nat)(v:Value)(h:vs[i]? = some v):opK P (xV (Instr.extract (.tuple vs) i)) w K=K v w:=a3H (by simp [Instr.extract,h])
theorem c0F(fn:Fn)(a b:Array Value):opK P (xV (Instr.makeFunc fn a b)) w K=K (.func fn a b) w:=a3H (by simp [Instr.makeFunc])
theorem b6F{A B:Prop}:xcond (.bool true) A B=A:=rfl
theorem b6G{A B:Prop}:xcond (.bool false) A B=B:=rfl
theorem a4d{b:Bool}{A B:Prop}(h1:b=true→A)(h2:b=false→B):xcond (.bool b) A B:=by
 cases b
 ·exact h2 rfl
 ·exact h1 rfl
theorem c8B{p:Prop} [Decidable p] (h:p):decide p=true:=by simp [h]
theorem c8C{p:Prop} [Decidable p] (h:¬p):decide p=false:=by simp [h]
end
end Go.Proofs.YthklmeihgmcljaaGreatDoor.Od
