/- What single operations come to, for the second reading (K0): pure ones, loads, and what stays. No program in sight. -/
import Derived.Laws.World
import Derived.WalkKit
import Derived.Laws.Tables
import Derived.Laws.CopyRow
import Derived.Laws.CopyOwn
import Derived.Laws.Rows
import Derived.Laws.AppendOwn
import Derived.Laws.MakeOwn
import Derived.Laws.Small
import Derived.Test.YthaaobpfbgcfiaaGreatDooryWK0
namespace Go.Proofs.YthaaobpfbgcfiaaGreatDoor
open Go.RowKit
section
variable {P:Program}{E:Pan}{w:World}{K:Value→World→Prop}
def Pu(P:Program)(s:Sem Next)(v:Value):Prop:=∀w,s.run P w=.ok (.value v) w
def Ld(P:Program)(w:World)(g:Nat)(s:Sem Next)(v:Value):Prop:=∀w',w'.heap[g]? = w.heap[g]?→s.run P w'=.ok (.value v) w'
theorem b6{s:Sem Next}{v:Value}(h:Pu P s v)(k:K v w):opK P E s w K:=by
 unfold opK
 rw [h w]
 exact k
theorem d6{s:Sem Next}{v:Value}{K:Value→Prop}(h:Pu P s v)(k:K v):qP P s K:=⟨v,h,k⟩
theorem d4{g:Nat}{s:Sem Next}{v:Value}(h:Ld P w g s v)(k:K v w):opK P E s w K:=by
 unfold opK
 rw [h w rfl]
 exact k
theorem i8{g:Nat}{s:Sem Next}{v:Value}{K:Value→Prop}(h:Ld P w g s v)(k:K v):qL P w (some g) s K:=⟨v,h,k⟩
theorem Pu.ld{g:Nat}{s:Sem Next}{v:Value}(h:Pu P s v):Ld P w g s v:=fun w' _=>h w'
theorem Pu.ok{s:Sem Value}{v:Value}(h:∀w,s.run P w=.ok v w):Pu P (xV s) v:=fun w=>by
 unfold xV
 rw [Sem.run_bind,h w]
 rfl
theorem Ld.ok{g:Nat}{s:Sem Value}{v:Value}(h:∀w',w'.heap[g]? = w.heap[g]?→s.run P w'=.ok v w'):Ld P w g (xV s) v:=fun w' hw=>by
 unfold xV
 rw [Sem.run_bind,h w' hw]
 rfl
theorem a0J{s:Sem Value}{v:Value}{w':World}(h:s.run P w=.ok v w')(k:K v w'):opK P E (xV s) w K:=by
 unfold opK xV
 rw [Sem.run_bind,h]
 exact k
theorem c0g{s:Sem Unit}{w':World}(h:s.run P w=.ok () w')(k:K undef w'):opK P E (xU s) w K:=by
 unfold opK xU
 rw [Sem.run_bind,h]
 exact k
def gv(b want:Bool)(v:Value):Value:=bif b == want then v else undef
theorem b5D(b want:Bool)(s:Sem Next):gsem (asB (.bool b)) want s=bif b == want then s else pure (.value undef):=by
 cases b<;>cases want<;>rfl
theorem J0(b want:Bool)(v:Value):gval (asB (.bool b)) want v=gv b want v:=by
 cases b<;>cases want<;>rfl
theorem Pu.g{b want:Bool}{s:Sem Next}{v:Value}(h:b=want→Pu P s v):Pu P (gsem (asB (.bool b)) want s) (gv b want v):=by
 intro w
 rw [b5D]
 unfold gv
 cases hb:b == want with
 | true=>exact h (by simpa using hb) w
 | false=>rfl
theorem Ld.g{g:Nat}{b want:Bool}{s:Sem Next}{v:Value}(h:b=want→Ld P w g s v):Ld P w g (gsem (asB (.bool b)) want s) (gv b want v):=by
 intro w' hw
 rw [b5D]
 unfold gv
 cases hb:b == want with
 | true=>exact h (by simpa using hb) w' hw
 | false=>rfl
theorem a5I{b want:Bool}{s:Sem Next}(h1:b=want→opK P E s w K)(h2:¬b=want→K undef w):opK P E (gsem (asB (.bool b)) want s) w K:=by
 rw [b5D]
 cases hb:b == want with
 | true=>exact h1 (by simpa using hb)
 | false=>exact h2 (by simpa using hb)
theorem j8{b want:Bool}{v:Value}(h:b=want):gv b want v=v:=by
 subst h
 cases b<;>rfl
theorem b6D{b want:Bool}{v:Value}(h:¬b=want):gv b want v=undef:=by
 cases b<;>cases want<;>first | exact (h rfl).elim | rfl
theorem a1u{b want:Bool}{g:Nat}{p:Value}{s:Sem Next}{v:Value}{K:Value→Prop}(hp:blk p=some g)(h:Ld P w g (gsem (asB (.bool b)) want s) (gv b want v))(k:K (gv b want v)):qL P w (blk (gv b want p)) (gsem (asB (.bool b)) want s) K:=by
 refine ⟨gv b want v,fun w' hs=>?_,k⟩
 by_cases hb:b=want
 ·rw [j8 hb,hp] at hs
  exact h w' hs
 ·rw [b5D,show (b == want)=false by simpa using hb,b6D hb]
  rfl
theorem a2E{b want:Bool}{g:Nat}{p:Value}{w':World}(hp:blk p=some g)(h:w'.heap[g]? = w.heap[g]?):sameB (blk (gv b want p)) w w':=by
 by_cases hb:b=want
 ·rw [j8 hb,hp]
  exact h
 ·rw [b6D hb]
  trivial
theorem c0h(k:Int)(h1:-9223372036854775808≤k)(h2:k≤9223372036854775807):IntKind.i64.wrap k=k:=by
 have e1:((2:Int) ^ (64:Nat))=18446744073709551616:=by decide
 have e2:((2:Int) ^ (63:Nat))=9223372036854775808:=by decide
 simp only [IntKind.wrap,IntKind.signed,IntKind.bits,Nat.reduceSub,e1,e2,Bool.true_and,decide_eq_true_eq,ge_iff_le]
 split<;>omega
theorem a0K(op:BinOp)(t:TypeId)(x y:Operand)(k k':IntKind)(a b:Int):
  xBin op t x y (.int k a) (.int k' b)=xV (binOp op t (.int k a) (.int k' b)):=by
 unfold xBin xV eqGuard
 cases op<;>rfl
section
variable (t:TypeId)(x y:Operand)(k:IntKind)(a b:Int)
theorem A4:Pu P (xBin .lss t x y (.int k a) (.int k b)) (.bool (decide (a < b))):=by
 rw [a0K];exact Pu.ok fun w=>by simp [binOp,Op.intCmp]
theorem a8s:Pu P (xBin .leq t x y (.int k a) (.int k b)) (.bool (decide (a≤b))):=by
 rw [a0K];exact Pu.ok fun w=>by simp [binOp,Op.intCmp]
theorem O1:Pu P (xBin .gtr t x y (.int k a) (.int k b)) (.bool (decide (b < a))):=by
 rw [a0K];exact Pu.ok fun w=>by simp [binOp,Op.intCmp]
theorem a3r:Pu P (xBin .geq t x y (.int k a) (.int k b)) (.bool (decide (b≤a))):=by
 rw [a0K];exact Pu.ok fun w=>by simp [binOp,Op.intCmp]
theorem i7:Pu P (xBin .eql t x y (.int k a) (.int k b)) (.bool (decide (a=b))):=by
 rw [a0K];exact Pu.ok fun w=>by simp [binOp,Op.intCmp];rfl
theorem O8:Pu P (xBin .neq t x y (.int k a) (.int k b)) (.bool (!decide (a=b))):=by
 rw [a0K];exact Pu.ok fun w=>by simp [binOp,Op.intCmp];rw [Bool.eq_iff_iff];simp
theorem B0:Pu P (xBin .add t x y (.int k a) (.int k b)) (.int k (k.wrap (a+b))):=by
 rw [a0K];exact Pu.ok fun w=>by simp [binOp,Op.intArith]
theorem b0d:Pu P (xBin .sub t x y (.int k a) (.int k b)) (.int k (k.wrap (a-b))):=by
 rw [a0K];exact Pu.ok fun w=>by simp [binOp,Op.intArith]
theorem b1A:Pu P (xBin .mul t x y (.int k a) (.int k b)) (.int k (k.wrap (a*b))):=by
 rw [a0K];exact Pu.ok fun w=>by simp [binOp,Op.intArith]
end
theorem O4(b:Bool):Pu P (xV (Op.unary .not (.bool b))) (.bool !b):=Pu.ok fun w=>by simp [Op.unary]
theorem b8g(k:IntKind)(n:Int):Pu P (xV (Op.unary .neg (.int k n))) (.int k (k.wrap (0-n))):=Pu.ok fun w=>by simp [Op.unary,Op.intArith]
theorem a6X(b:Bool)(x y:Value):Pu P (xPick (.bool b) x y) (bif b then x else y):=by
 intro w
 unfold xPick asBool
 cases b<;>rfl
theorem E0(b c:Bool):Pu P (xPick (.bool b) (gv b true (.bool c)) (.bool false)) (.bool (b&&c)):=by
 cases b<;>exact a6X _ _ _
theorem M2(b c:Bool):Pu P (xPick (.bool b) (.bool true) (gv b false (.bool c))) (.bool (b||c)):=by
 cases b<;>exact a6X _ _ _
theorem i5(vs:Array Value)(i:Nat)(v:Value)(h:vs[i]? = some v):Pu P (xV (Instr.extract (.tuple vs) i)) v:=Pu.ok fun w=>by simp [Instr.extract,h]
theorem a6z(fn:Fn)(a b:Array Value):Pu P (xV (Instr.makeFunc fn a b)) (.func fn a b):=Pu.ok fun w=>by simp [Instr.makeFunc]
theorem O9{t e ty:TypeId}(hu:P.underlying t=some (.slice e))(a:Option Addr)(n c:Nat):Pu P (xBuiltin .len #[t] ty [false] [.slice a n c]) (.int .i64 (n:Int)):=by
 have e':P.elem t=e:=by simp [Program.elem,hu]
 have:xBuiltin .len #[t] ty [false] [.slice a n c]=xV (Builtin.len_ #[t] ty #[.slice a n c]):=rfl
 rw [this]
 exact Pu.ok fun w=>run_len_slice (P:=P) (w:=w) t ty a n c (by rw [e'];exact hu)
theorem c2A(ty:TypeId)(ts:Array TypeId)(ks:List Bool)(a b:Int):Pu P (xBuiltin .max ts ty ks [.int .i64 a,.int .i64 b]) (.int .i64 (if b > a then b else a)):=by
 have:xBuiltin .max ts ty ks [.int .i64 a,.int .i64 b]=xV (Builtin.max_ ts ty #[.int .i64 a,.int .i64 b]):=rfl
 rw [this]
 exact Pu.ok fun w=>run_max_int2 (P:=P) (w:=w) ts ty .i64 .i64 a b
theorem m7(a:Addr):Pu P (xNil (.pointer (some a))) (.pointer (some a)):=fun _=>rfl
theorem a3R(g o j:Nat):(⟨g,o,none⟩:Addr).add j=⟨g,o+j,none⟩:=by unfold Addr.add;split<;>simp_all
theorem Q5{t e:TypeId}{m:Nat}(hu:P.underlying t=some (.slice e))(hs:∀w,(sizeOf e).run P w=.ok m w){a:Option Addr}{g o:Nat}(ha:a=some ⟨g,o,none⟩)(len cap:Nat)(k:IntKind)(i:Int)(h0:0≤i)(h1:i < len):
  Pu P (xV (Instr.indexAt t (.slice a len cap) (.int k i))) (.pointer (some ⟨g,o+i.toNat*m,none⟩)):=by
 subst ha
 refine Pu.ok fun w=>?_
 have e':P.elem t=e:=by simp [Program.elem,hu]
 rw [run_indexAt_slice (P:=P) (w:=w) t _ len cap k i (by rw [e'];exact hu),if_pos ⟨h0,h1⟩,e',hs,Result.andThen_ok,a3R]
theorem b8h{t:TypeId}(hc:P.concrete t=true)(v:Value):Pu P (xV (Instr.makeInterface t v)) (.iface t v):=Pu.ok fun w=>run_makeInterface (P:=P) (w:=w) t v hc
def AtW(w:World)(g o:Nat)(vs:List Value):Prop:=∃arr t fr,w.heap[g]? = some (.cells arr t fr)∧o+vs.length≤arr.size∧(arr.toList.drop o).take vs.length=vs
theorem b2g{g o:Nat}{cs:Array Value}{t:TypeId}{fr:Nat×Nat}(h:w.heap[g]? = some (.cells cs t fr)):w.cell? ⟨g,o,none⟩=cs[o]?:=by
 simp [World.cell?,h]
theorem AtW.get{g o:Nat}{vs:List Value}(h:AtW w g o vs){j:Nat}{v:Value}(hj:vs[j]? = some v):w.cell? ⟨g,o+j,none⟩=some v:=by
 obtain ⟨arr,t,fr,h1,h2,h3⟩:=h
 rw [b2g h1]
 rw [←h3] at hj
 simp only [List.getElem?_take,List.getElem?_drop,Array.getElem?_toList] at hj
 split at hj
 ·exact hj
 ·cases hj
theorem AtW.move{w':World}{g o:Nat}{vs:List Value}(h:AtW w g o vs)(e:w'.heap[g]? = w.heap[g]?):AtW w' g o vs:=by
 obtain ⟨arr,t,fr,h1,h2⟩:=h
 exact ⟨arr,t,fr,e.trans h1,h2⟩
theorem AtW.sub{g o:Nat}{vs:List Value}(h:AtW w g o vs){k n:Nat}(hk:k+n≤vs.length):AtW w g (o+k) ((vs.drop k).take n):=by
 obtain ⟨arr,t,fr,h1,h2,h3⟩:=h
 have hl:((vs.drop k).take n).length=n:=by simp;omega
 refine ⟨arr,t,fr,h1,by rw [hl];omega,?_⟩
 have e:(((arr.toList.drop o).take vs.length).drop k).take n=(vs.drop k).take n:=by rw [h3]
 rw [hl,← e,List.drop_take,List.drop_drop,List.take_take,Nat.min_eq_left (by omega)]
theorem b4V(a:Addr):Instr.sureAddr (.pointer (some a))=pure a:=rfl
theorem ld1{t:TypeId}{g o:Nat}{v:Value}(hA:∀w,(isAgg t).run P w=.ok false w)(h:AtW w g o [v]):Ld P w g (xV (Instr.loadAt t (.pointer (some ⟨g,o,none⟩)))) v:=by
 refine Ld.ok fun w' e=>?_
 have hc:=(h.move e).get (j:=0) (v:=v) rfl
 simp only [Instr.loadAt,b4V,Sem.run_bind,Sem.run_pure,Result.andThen_ok,loadVar,hA,Bool.false_eq_true,if_false,run_load]
 rw [show w'.cell? ⟨g,o,none⟩=some v from hc]
theorem ldA{t:TypeId}{g o n:Nat}{vs:List Value}(hA:∀w,(isAgg t).run P w=.ok true w)(hs:∀w,(sizeOf t).run P w=.ok n w)(hn:vs.length=n)(h:AtW w g o vs):
  Ld P w g (xV (Instr.loadAt t (.pointer (some ⟨g,o,none⟩)))) (.agg vs.toArray):=by
 subst hn
 refine Ld.ok fun w' e=>?_
 have:=run_loadCells_list (P:=P) (w:=w') ⟨g,o,none⟩ vs (fun j v hj=>by rw [a3R];exact (h.move e).get hj)
 simp only [Instr.loadAt,b4V,Sem.run_bind,Sem.run_pure,Result.andThen_ok,loadVar,hA,if_true,hs,this]
theorem b1B{t:TypeId}{g o n:Nat}{vs:List Value}{K:Value→Prop}(hA:∀w,(isAgg t).run P w=.ok true w)(hs:∀w,(sizeOf t).run P w=.ok n w)(hn:vs.length=n)(h:AtW w g o vs)(k:K (.agg vs.toArray)):
  xcell P t (.pointer (some ⟨g,o,none⟩)) w K:=by
 subst hn
 refine ⟨_,?_,k⟩
 have:=run_loadCells_list (P:=P) (w:=w) ⟨g,o,none⟩ vs (fun j v hj=>by rw [a3R];exact h.get hj)
 simp only [cellAt,asAddr,Sem.run_bind,Sem.run_pure,Result.andThen_ok,loadVar,hA,if_true,hs,this]
end
end Go.Proofs.YthaaobpfbgcfiaaGreatDoor
