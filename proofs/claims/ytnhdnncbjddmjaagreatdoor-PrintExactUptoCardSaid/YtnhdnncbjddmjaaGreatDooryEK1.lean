/- What single operations come to, for the second reading (K0): pure ones, loads, and what stays. No program in sight. -/
import Derived.Laws.World
import Derived.WalkKit
import Derived.Laws.Tables
import Derived.Laws.CopyRow
import Derived.Laws.CopyOwn
import Derived.Laws.Rows
import Derived.Laws.AppendOwn
import Derived.Laws.MakeOwn
import Derived.Laws.Small
import Derived.Test.YtnhdnncbjddmjaaGreatDooryEK0
namespace Go.Proofs.YtnhdnncbjddmjaaGreatDoor
open Go.RowKit
section
variable {P:Program}{E:Pan}{w:World}{K:Value→World→Prop}
def Pu(P:Program)(s:Sem Next)(v:Value):Prop:=∀w,s.run P w=.ok (.value v) w
def Ld(P:Program)(w:World)(g:Nat)(s:Sem Next)(v:Value):Prop:=∀w',w'.heap[g]? = w.heap[g]?→s.run P w'=.ok (.value v) w'
theorem a7{s:Sem Next}{v:Value}(h:Pu P s v)(k:K v w):opK P E s w K:=by
 unfold opK
 rw [h w]
 exact k
theorem f6{s:Sem Next}{v:Value}{K:Value→Prop}(h:Pu P s v)(k:K v):qP P s K:=⟨v,h,k⟩
theorem b9{g:Nat}{s:Sem Next}{v:Value}(h:Ld P w g s v)(k:K v w):opK P E s w K:=by
 unfold opK
 rw [h w rfl]
 exact k
theorem l8{g:Nat}{s:Sem Next}{v:Value}{K:Value→Prop}(h:Ld P w g s v)(k:K v):qL P w (some g) s K:=⟨v,h,k⟩
theorem Pu.ok{s:Sem Value}{v:Value}(h:∀w,s.run P w=.ok v w):Pu P (xV s) v:=fun w=>by
 unfold xV
 rw [Sem.run_bind,h w]
 rfl
theorem Ld.ok{g:Nat}{s:Sem Value}{v:Value}(h:∀w',w'.heap[g]? = w.heap[g]?→s.run P w'=.ok v w'):Ld P w g (xV s) v:=fun w' hw=>by
 unfold xV
 rw [Sem.run_bind,h w' hw]
 rfl
theorem N4{s:Sem Value}{v:Value}{w':World}(h:s.run P w=.ok v w')(k:K v w'):opK P E (xV s) w K:=by
 unfold opK xV
 rw [Sem.run_bind,h]
 exact k
theorem b6O{s:Sem Unit}{w':World}(h:s.run P w=.ok () w')(k:K undef w'):opK P E (xU s) w K:=by
 unfold opK xU
 rw [Sem.run_bind,h]
 exact k
def gv(b want:Bool)(v:Value):Value:=bif b == want then v else undef
theorem a8V(b want:Bool)(s:Sem Next):gsem (asB (.bool b)) want s=bif b == want then s else pure (.value undef):=by
 cases b<;>cases want<;>rfl
theorem o6(b want:Bool)(v:Value):gval (asB (.bool b)) want v=gv b want v:=by
 cases b<;>cases want<;>rfl
theorem Pu.g{b want:Bool}{s:Sem Next}{v:Value}(h:b=want→Pu P s v):Pu P (gsem (asB (.bool b)) want s) (gv b want v):=by
 intro w
 rw [a8V]
 unfold gv
 cases hb:b == want with
 | true=>exact h (by simpa using hb) w
 | false=>rfl
theorem Ld.g{g:Nat}{b want:Bool}{s:Sem Next}{v:Value}(h:b=want→Ld P w g s v):Ld P w g (gsem (asB (.bool b)) want s) (gv b want v):=by
 intro w' hw
 rw [a8V]
 unfold gv
 cases hb:b == want with
 | true=>exact h (by simpa using hb) w' hw
 | false=>rfl
theorem c0k{b want:Bool}{s:Sem Next}(h1:b=want→opK P E s w K)(h2:¬b=want→K undef w):opK P E (gsem (asB (.bool b)) want s) w K:=by
 rw [a8V]
 cases hb:b == want with
 | true=>exact h1 (by simpa using hb)
 | false=>exact h2 (by simpa using hb)
theorem d9{b want:Bool}{v:Value}(h:b=want):gv b want v=v:=by
 subst h
 cases b<;>rfl
theorem b0D{b want:Bool}{v:Value}(h:¬b=want):gv b want v=undef:=by
 cases b<;>cases want<;>first | exact (h rfl).elim | rfl
theorem b7Y{b want:Bool}{g:Nat}{p:Value}{s:Sem Next}{v:Value}{K:Value→Prop}(hp:blk p=some g)(h:Ld P w g (gsem (asB (.bool b)) want s) (gv b want v))(k:K (gv b want v)):qL P w (blk (gv b want p)) (gsem (asB (.bool b)) want s) K:=by
 refine ⟨gv b want v,fun w' hs=>?_,k⟩
 by_cases hb:b=want
 ·rw [d9 hb,hp] at hs
  exact h w' hs
 ·rw [a8V,show (b == want)=false by simpa using hb,b0D hb]
  rfl
theorem a0U(op:BinOp)(t:TypeId)(x y:Operand)(k k':IntKind)(a b:Int):
  xBin op t x y (.int k a) (.int k' b)=xV (binOp op t (.int k a) (.int k' b)):=by
 unfold xBin xV eqGuard
 cases op<;>rfl
section
variable (t:TypeId)(x y:Operand)(k:IntKind)(a b:Int)
theorem q9:Pu P (xBin .lss t x y (.int k a) (.int k b)) (.bool (decide (a < b))):=by
 rw [a0U];exact Pu.ok fun w=>by simp [binOp,Op.intCmp]
theorem a2N:Pu P (xBin .leq t x y (.int k a) (.int k b)) (.bool (decide (a≤b))):=by
 rw [a0U];exact Pu.ok fun w=>by simp [binOp,Op.intCmp]
theorem a1F:Pu P (xBin .gtr t x y (.int k a) (.int k b)) (.bool (decide (b < a))):=by
 rw [a0U];exact Pu.ok fun w=>by simp [binOp,Op.intCmp]
theorem a1X:Pu P (xBin .geq t x y (.int k a) (.int k b)) (.bool (decide (b≤a))):=by
 rw [a0U];exact Pu.ok fun w=>by simp [binOp,Op.intCmp]
theorem d2:Pu P (xBin .eql t x y (.int k a) (.int k b)) (.bool (decide (a=b))):=by
 rw [a0U];exact Pu.ok fun w=>by simp [binOp,Op.intCmp];rfl
theorem a1G:Pu P (xBin .neq t x y (.int k a) (.int k b)) (.bool (!decide (a=b))):=by
 rw [a0U];exact Pu.ok fun w=>by simp [binOp,Op.intCmp];rw [Bool.eq_iff_iff];simp
theorem o4:Pu P (xBin .add t x y (.int k a) (.int k b)) (.int k (k.wrap (a+b))):=by
 rw [a0U];exact Pu.ok fun w=>by simp [binOp,Op.intArith]
theorem a0v:Pu P (xBin .sub t x y (.int k a) (.int k b)) (.int k (k.wrap (a-b))):=by
 rw [a0U];exact Pu.ok fun w=>by simp [binOp,Op.intArith]
theorem b7Z:Pu P (xBin .mul t x y (.int k a) (.int k b)) (.int k (k.wrap (a*b))):=by
 rw [a0U];exact Pu.ok fun w=>by simp [binOp,Op.intArith]
end
theorem T5(b:Bool):Pu P (xV (Op.unary .not (.bool b))) (.bool !b):=Pu.ok fun w=>by simp [Op.unary]
theorem b2M(b:Bool)(x y:Value):Pu P (xPick (.bool b) x y) (bif b then x else y):=by
 intro w
 unfold xPick asBool
 cases b<;>rfl
theorem o7(b c:Bool):Pu P (xPick (.bool b) (gv b true (.bool c)) (.bool false)) (.bool (b&&c)):=by
 cases b<;>exact b2M _ _ _
theorem K7(b c:Bool):Pu P (xPick (.bool b) (.bool true) (gv b false (.bool c))) (.bool (b||c)):=by
 cases b<;>exact b2M _ _ _
theorem v8(vs:Array Value)(i:Nat)(v:Value)(h:vs[i]? = some v):Pu P (xV (Instr.extract (.tuple vs) i)) v:=Pu.ok fun w=>by simp [Instr.extract,h]
theorem a1O(fn:Fn)(a b:Array Value):Pu P (xV (Instr.makeFunc fn a b)) (.func fn a b):=Pu.ok fun w=>by simp [Instr.makeFunc]
theorem b0E(t:TypeId)(s:ByteArray)(k:IntKind)(i:Int)(ht:P.underlying t=some .string)(h0:0≤i)(hi:i < s.size):
  Pu P (xV (Instr.index t (.string s) (.int k i))) (.int .u8 ((s.get! i.toNat).toNat:Int)):=by
 refine Pu.ok fun w=>?_
 have hi':i.toNat < s.size:=by omega
 rw [run_index_string (P:=P) (w:=w) t s k i ht,dif_pos ⟨h0,hi⟩]
 have e:s[i.toNat]'(by omega)=s.get! i.toNat:=by
  obtain ⟨⟨l⟩⟩:=s
  have hi':i.toNat < l.length:=hi'
  simp [ByteArray.get!,hi',ByteArray.getElem_eq_getElem_data]
 rw [e]
theorem b3j(t ty:TypeId)(s:ByteArray)(ht:P.underlying t=some .string):Pu P (xBuiltin .len #[t] ty [false] [.string s]) (.int .i64 (s.size:Int)):=by
 have:xBuiltin .len #[t] ty [false] [.string s]=xV (Builtin.len_ #[t] ty #[.string s]):=rfl
 rw [this]
 exact Pu.ok fun w=>run_len_string (P:=P) (w:=w) t ty s ht
theorem Z6{t e ty:TypeId}(hu:P.underlying t=some (.slice e))(a:Option Addr)(n c:Nat):Pu P (xBuiltin .len #[t] ty [false] [.slice a n c]) (.int .i64 (n:Int)):=by
 have e':P.elem t=e:=by simp [Program.elem,hu]
 have:xBuiltin .len #[t] ty [false] [.slice a n c]=xV (Builtin.len_ #[t] ty #[.slice a n c]):=rfl
 rw [this]
 exact Pu.ok fun w=>run_len_slice (P:=P) (w:=w) t ty a n c (by rw [e'];exact hu)
theorem b4e(ty:TypeId)(ts:Array TypeId)(ks:List Bool)(a b:Int):Pu P (xBuiltin .max ts ty ks [.int .i64 a,.int .i64 b]) (.int .i64 (if b > a then b else a)):=by
 have:xBuiltin .max ts ty ks [.int .i64 a,.int .i64 b]=xV (Builtin.max_ ts ty #[.int .i64 a,.int .i64 b]):=rfl
 rw [this]
 exact Pu.ok fun w=>run_max_int2 (P:=P) (w:=w) ts ty .i64 .i64 a b
theorem g7(a:Addr):Pu P (xNil (.pointer (some a))) (.pointer (some a)):=fun _=>rfl
theorem a2f(g o j:Nat):(⟨g,o,none⟩:Addr).add j=⟨g,o+j,none⟩:=by unfold Addr.add;split<;>simp_all
theorem a2g{t e:TypeId}{m:Nat}(hu:P.underlying t=some (.slice e))(hs:∀w,(sizeOf e).run P w=.ok m w){a:Option Addr}{g o:Nat}(ha:a=some ⟨g,o,none⟩)(len cap:Nat)(k:IntKind)(i:Int)(h0:0≤i)(h1:i < len):
  Pu P (xV (Instr.indexAt t (.slice a len cap) (.int k i))) (.pointer (some ⟨g,o+i.toNat*m,none⟩)):=by
 subst ha
 refine Pu.ok fun w=>?_
 have e':P.elem t=e:=by simp [Program.elem,hu]
 rw [run_indexAt_slice (P:=P) (w:=w) t _ len cap k i (by rw [e'];exact hu),if_pos ⟨h0,h1⟩,e',hs,Result.andThen_ok,a2f]
def AtW(w:World)(g o:Nat)(vs:List Value):Prop:=∃arr t fr,w.heap[g]? = some (.cells arr t fr)∧o+vs.length≤arr.size∧(arr.toList.drop o).take vs.length=vs
theorem a5l{g o:Nat}{cs:Array Value}{t:TypeId}{fr:Nat×Nat}(h:w.heap[g]? = some (.cells cs t fr)):w.cell? ⟨g,o,none⟩=cs[o]?:=by
 simp [World.cell?,h]
theorem AtW.get{g o:Nat}{vs:List Value}(h:AtW w g o vs){j:Nat}{v:Value}(hj:vs[j]? = some v):w.cell? ⟨g,o+j,none⟩=some v:=by
 obtain ⟨arr,t,fr,h1,h2,h3⟩:=h
 rw [a5l h1]
 rw [←h3] at hj
 simp only [List.getElem?_take,List.getElem?_drop,Array.getElem?_toList] at hj
 split at hj
 ·exact hj
 ·cases hj
theorem AtW.move{w':World}{g o:Nat}{vs:List Value}(h:AtW w g o vs)(e:w'.heap[g]? = w.heap[g]?):AtW w' g o vs:=by
 obtain ⟨arr,t,fr,h1,h2⟩:=h
 exact ⟨arr,t,fr,e.trans h1,h2⟩
theorem AtW.sub{g o:Nat}{vs:List Value}(h:AtW w g o vs){k n:Nat}(hk:k+n≤vs.length):AtW w g (o+k) ((vs.drop k).take n):=by
 obtain ⟨arr,t,fr,h1,h2,h3⟩:=h
 have hl:((vs.drop k).take n).length=n:=by simp;omega
 refine ⟨arr,t,fr,h1,by rw [hl];omega,?_⟩
 have e:(((arr.toList.drop o).take vs.length).drop k).take n=(vs.drop k).take n:=by rw [h3]
 rw [hl,← e,List.drop_take,List.drop_drop,List.take_take,Nat.min_eq_left (by omega)]
theorem a8H(a:Addr):Instr.sureAddr (.pointer (some a))=pure a:=rfl
theorem ld1{t:TypeId}{g o:Nat}{v:Value}(hA:∀w,(isAgg t).run P w=.ok false w)(h:AtW w g o [v]):Ld P w g (xV (Instr.loadAt t (.pointer (some ⟨g,o,none⟩)))) v:=by
 refine Ld.ok fun w' e=>?_
 have hc:=(h.move e).get (j:=0) (v:=v) rfl
 simp only [Instr.loadAt,a8H,Sem.run_bind,Sem.run_pure,Result.andThen_ok,loadVar,hA,Bool.false_eq_true,if_false,run_load]
 rw [show w'.cell? ⟨g,o,none⟩=some v from hc]
theorem ldA{t:TypeId}{g o n:Nat}{vs:List Value}(hA:∀w,(isAgg t).run P w=.ok true w)(hs:∀w,(sizeOf t).run P w=.ok n w)(hn:vs.length=n)(h:AtW w g o vs):
  Ld P w g (xV (Instr.loadAt t (.pointer (some ⟨g,o,none⟩)))) (.agg vs.toArray):=by
 subst hn
 refine Ld.ok fun w' e=>?_
 have:=run_loadCells_list (P:=P) (w:=w') ⟨g,o,none⟩ vs (fun j v hj=>by rw [a2f];exact (h.move e).get hj)
 simp only [Instr.loadAt,a8H,Sem.run_bind,Sem.run_pure,Result.andThen_ok,loadVar,hA,if_true,hs,this]
theorem b6P{t:TypeId}{g o n:Nat}{vs:List Value}{K:Value→Prop}(hA:∀w,(isAgg t).run P w=.ok true w)(hs:∀w,(sizeOf t).run P w=.ok n w)(hn:vs.length=n)(h:AtW w g o vs)(k:K (.agg vs.toArray)):
  xcell P t (.pointer (some ⟨g,o,none⟩)) w K:=by
 subst hn
 refine ⟨_,?_,k⟩
 have:=run_loadCells_list (P:=P) (w:=w) ⟨g,o,none⟩ vs (fun j v hj=>by rw [a2f];exact h.get hj)
 simp only [cellAt,asAddr,Sem.run_bind,Sem.run_pure,Result.andThen_ok,loadVar,hA,if_true,hs,this]
end
end Go.Proofs.YtnhdnncbjddmjaaGreatDoor
