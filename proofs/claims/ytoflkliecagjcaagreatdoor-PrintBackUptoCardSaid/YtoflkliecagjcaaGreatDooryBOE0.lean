/- A second reading of the model's code: weakest preconditions over a frame that is a function from slots to values, with cuts at joins and loops where only the live slots are kept. Proved once from the model's own rules; no program in sight. -/
import Derived.Calls
import Derived.Orders
import Derived.Deep.Quiet
import Derived.Tactics
import Derived.Below
namespace Go.Proofs.YtoflkliecagjcaaGreatDoor.Od
open Go.RowKit
abbrev Fr:=Nat→Value
def up(σ:Fr)(d:Option Nat)(v:Value):Fr:=
 match d with
 | some d=>fun i=>bif Nat.beq i d then v else σ i
 | none=>σ
def ev(σ:Fr):Operand→Value
 | .tmp t=>σ t
 | .const v=>v
 | .global g=>.pointer (some ⟨g,0,none⟩)
 | .func f=>.func (.func f) #[] #[]
def asB:Value→Option Bool
 | .bool b=>some b
 | _=>none
def Cv(P:Program)(f:FuncId)(args:Array Value)(w:World)(R:Value→World→Prop):Prop:=
 Calls P f args w fun e w'=>∃v,e=.returned v∧R v w'
theorem Cv.mono{P:Program}{f:FuncId}{args:Array Value}{w:World}{R R':Value→World→Prop}(h:Cv P f args w R)(hr:∀v w',R v w'→R' v w'):Cv P f args w R':=
 Calls.mono h fun _ _ ⟨v,e,r⟩=>⟨v,e,hr _ _ r⟩
def opK(P:Program)(s:Sem Next)(w:World)(K:Value→World→Prop):Prop:=
 match s.run P w with
 | .ok (.value v) w'=>K v w'
 | .ok .skip w'=>K undef w'
 | .ok (.enter f args) w'=>Cv P f args w' K
 | _=>False
def yldX(ops:List Oper)(σ:Fr)(j:Nat):Option Bool:=
 match ops[j]? with
 | some o=>match o.dst with
  | some d=>asB (σ d)
  | none=>none
 | none=>none
def gsem(b:Option Bool)(want:Bool)(s:Sem Next):Sem Next:=bif b == some want then s else pure (.value undef)
def gval(b:Option Bool)(want:Bool)(x:Value):Value:=bif b == some want then x else undef
def xV(s:Sem Value):Sem Next:=do pure (.value (← s))
def xU(s:Sem Unit):Sem Next:=do s;pure .skip
def xPick(c a b:Value):Sem Next:=do pure (.value (if ← asBool c then a else b))
def xBin(op:BinOp)(t:TypeId)(x y:Operand)(a b:Value):Sem Next:=do pure (.value (← (do eqGuard op t x y a b;binOp op t a b)))
def xCall(f:Value)(args:List Value):Sem Next:=do let d ← Deferred.ofValue f args.toArray;invoke d.target d.args
def xInvoke(r:Value)(name:String)(args:List Value):Sem Next:=invoke (.fn (.method name) #[]) (r::args).toArray
def xNil (v : Value) : Sem Next := execOp (fun _ => v) ⟨none, .nilCheck (.const .nilIface), 0, "", #[], none⟩
def isK:Operand→Bool
 | .const _=>true
 | _=>false
def xBuiltin(b:Builtin)(ts:Array TypeId)(type:TypeId)(ks:List Bool)(args:List Value):Sem Next:=invoke (.builtin b ts type ks.toArray) args.toArray
def evP(σ:Fr):List (Nat×Operand)→List (Nat×Value)
 | []=>[]
 | p::l=>(p.1,ev σ p.2)::evP σ l
def semX(σ:Fr)(o:Oper):Sem Next:=
 match o.op with
 | .pick c a b=>xPick (ev σ c) (ev σ a) (ev σ b)
 | .binOp op t x y _=>xBin op t x y (ev σ x) (ev σ y)
 | .call c=>
  match c.callee with
  | .value f=>xCall (ev σ f) (c.args.toList.map (ev σ))
  | .invoke r name=>xInvoke (ev σ r) name (c.args.toList.map (ev σ))
  | .builtin b=>xBuiltin b c.argTypes o.type (c.args.toList.map isK) (c.args.toList.map (ev σ))
 | .build t ps=>xV (Instr.build t (evP σ ps.toList).toArray)
 | .buildSlice t n ps=>xV (Instr.buildSlice t n (evP σ ps.toList).toArray)
 | .nilCheck x=>xNil (ev σ x)
 | .makeFunc fn first captured=>xV (Instr.makeFunc fn (first.toList.map (ev σ)).toArray (captured.toList.map (ev σ)).toArray)
 | _=>execOp (ev σ) o
theorem mapA{α β:Type}(f:α→β)(l:Array α):(l.toList.map f).toArray=l.map f:=by
 rw [←Array.toList_map,Array.toArray_toList]
theorem b1X(σ:Fr)(ps:Array (Nat×Operand)):(evP σ ps.toList).toArray=ps.map fun (i,x)=>(i,ev σ x):=by
 have h:∀l:List (Nat×Operand),evP σ l=l.map fun (i,x)=>(i,ev σ x):=by
  intro l
  induction l with
  | nil=>rfl
  | cons p l ih=>simp only [evP,ih,List.map_cons]
 rw [h,mapA]
theorem a0t(σ:Fr)(o:Oper):semX σ o=execOp (ev σ) o:=by
 obtain ⟨dst,op,type,pos,after,guard⟩:=o
 cases op<;>try rfl
 case call c=>
  obtain ⟨callee,args,ts⟩:=c
  cases callee with
  | value f=>simp only [semX,execOp,resolve,xCall,mapA]
  | invoke r name=>
   have e:(ev σ r::args.toList.map (ev σ)).toArray=#[ev σ r]++args.map (ev σ):=by
    rw [←mapA]
    simp only [List.append_toArray,List.singleton_append]
   simp only [semX,execOp,resolve,xInvoke,e]
   rfl
  | builtin b=>
   simp only [semX,execOp,resolve,xBuiltin]
   have:(args.toList.map isK).toArray=args.map (fun | .const _=>true | _=>false):=by
    rw [mapA]
    exact congrArg (fun f=>args.map f) (funext fun x=>by cases x<;>rfl)
   rw [this,mapA]
   rfl
 case build t ps=>simp only [semX,execOp,xV,b1X]
 case buildSlice t n ps=>simp only [semX,execOp,xV,b1X]
 case makeFunc fn first captured=>simp only [semX,execOp,xV,mapA]
def gopS(ops:List Oper)(σ:Fr)(o:Oper):Sem Next:=
 match o.guard with
 | none=>semX σ o
 | some (j,want)=>gsem (yldX ops σ j) want (semX σ o)
def mvX(ops:List Oper)(σ:Fr)(o:Oper):Option Value:=
 match o.op with
 | .move x | .assign x=>match o.guard with
  | none=>some (ev σ x)
  | some (j,want)=>some (gval (yldX ops σ j) want (ev σ x))
 | _=>none
def opsX(P:Program)(ops:List Oper):List Oper→Fr→World→(Fr→World→Prop)→Prop
 | [],σ,w,K=>K σ w
 | o::r,σ,w,K=>
  match mvX ops σ o with
  | some v=>opsX P ops r (up σ o.dst v) w K
  | none=>opK P (gopS ops σ o) w fun v w'=>opsX P ops r (up σ o.dst v) w' K
def Ext(w w':World):Prop:=Below w.heap.size w w'
theorem Ext.refl(w:World):Ext w w:=Below.refl _ _
theorem Ext.trans{a b c:World}(h:Ext a b)(k:Ext b c):Ext a c:=Below.trans h (k.mono h.size)
def qK(P:Program)(w:World)(s:Sem Next)(K:Value→Prop):Prop:=
 ∃v,(∀w',Ext w w'→Oper.quietUpon P (Ext w) w' v (s.run P w'))∧K v
def qopsX(P:Program)(ops:List Oper)(w:World):List Oper→Fr→(Fr→Prop)→Prop
 | [],σ,K=>K σ
 | o::r,σ,K=>
  match mvX ops σ o with
  | some v=>qopsX P ops w r (up σ o.dst v) K
  | none=>qK P w (gopS ops σ o) fun v=>qopsX P ops w r (up σ o.dst v) K
def memb:List Nat→Nat→Bool
 | [],_=>false
 | d::l,i=>bif Nat.beq i d then true else memb l i
def dstsL:List Oper→List Nat
 | []=>[]
 | o::l=>match o.dst with
  | some d=>d::dstsL l
  | none=>dstsL l
def dsts:Code→List Nat
 | .region _ ops _=>dstsL ops.toList
 | .seq a b=>dsts a++dsts b
 | .cond _ a b=>dsts a++dsts b
 | .block _ c=>dsts c
 | .loop c=>dsts c
 | _=>[]
def lexOk:Code→Bool
 | .region _ ops true=>Region.lexB .any ops
 | .seq a b=>lexOk a&&lexOk b
 | .cond _ a b=>lexOk a&&lexOk b
 | .block _ c=>lexOk c
 | .loop c=>lexOk c
 | _=>true
def dokL(N:Nat):List Nat→Bool
 | []=>true
 | d::l=>Nat.blt d N&&dokL N l
inductive Hint where
 | none
 | seq (a b:Hint)
 | cut (S:List Nat) (a b:Hint)
 | cond (a b:Hint)
 | block (a:Hint)
 | loop (S:List Nat) (a:Hint)
def nth:List Value→Nat→Value
 | [],_=>undef
 | v::_,0=>v
 | _::l,n+1=>nth l n
def pickS:List Nat→List Value→Nat→Option Value
 | [],_,_=>none
 | s::S,l,i=>bif Nat.beq i s then some (nth l 0) else pickS S l.tail i
def fill(σ:Fr)(D:List Nat)(S:List Nat)(l:List Value)(τ:Fr):Fr:=fun i=>
 match pickS S l i with
 | some v=>v
 | none=>bif memb D i then τ i else σ i
def xcut(K:List Value→World→Prop)(body:(List Value→World→Prop)→Prop):Prop:=body K
def fill'(σ:Fr)(D:List Nat)(τ:Fr):Fr:=fun i=>bif memb D i then τ i else σ i
def thenX(K:Fr→World→Prop)(Q:Exit→Fr→World→Prop):Exit→Fr→World→Prop
 | .normal,σ,w=>K σ w
 | e,σ,w=>Q e σ w
def inBlockX(id:Nat)(Q:Exit→Fr→World→Prop):Exit→Fr→World→Prop
 | .exit id',σ,w=>bif Nat.beq id' id then Q .normal σ w else Q (.exit id') σ w
 | e,σ,w=>Q e σ w
def xcond(v:Value)(A B:Prop):Prop:=
 match v with
 | .bool true=>A
 | .bool false=>B
 | _=>False
def xloop(S:List Nat)(init:List Value)(w:World)(body:Fr→World→(List Value→World→Prop)→Prop):Prop:=
 ∃(I:List Value→World→Prop)(μ:List Value→World→Nat),I init w∧
  ∀(τ:Fr)(w':World),I (S.map τ) w'→body τ w' fun l w''=>I l w''∧μ l w'' < μ (S.map τ) w'
def WPx(P:Program):Code→Hint→Fr→World→(Exit→Fr→World→Prop)→Prop
 | .skip,_,σ,w,Q=>Q .normal σ w
 | .label _,_,σ,w,Q=>Q .normal σ w
 | .region _ ops false,_,σ,w,Q=>opsX P ops.toList ops.toList σ w fun σ' w'=>Q .normal σ' w'
 | .region _ ops true,_,σ,w,Q=>qopsX P ops.toList w ops.toList σ fun σ'=>∀w',Ext w w'→Q .normal σ' w'
 | .seq x y,h,σ,w,Q=>
  match h with
  | .cut S hx hy=>xcut (fun l w1=>∀τ:Fr,WPx P y hy (fill σ (dsts x) S l τ) w1 Q) fun J=>WPx P x hx σ w (thenX (fun σ1 w1=>J (S.map σ1) w1) Q)
  | .seq hx hy=>WPx P x hx σ w (thenX (fun σ1 w1=>WPx P y hy σ1 w1 Q) Q)
  | _=>False
 | .cond c x y,h,σ,w,Q=>
  match h with
  | .cond hx hy=>xcond (ev σ c) (WPx P x hx σ w Q) (WPx P y hy σ w Q)
  | _=>xcond (ev σ c) (WPx P x .none σ w Q) (WPx P y .none σ w Q)
 | .block id c,h,σ,w,Q=>
  match h with
  | .block hc=>WPx P c hc σ w (inBlockX id Q)
  | _=>False
 | .loop c,h,σ,w,Q=>
  match h with
  | .loop S hc=>xloop S (S.map σ) w fun τ w' next=>WPx P c hc (fill' σ (dsts c) τ) w' (thenX (fun σ' w''=>next (S.map σ') w'') Q)
  | _=>False
 | .exit id,_,σ,w,Q=>Q (.exit id) σ w
 | .ret,_,σ,w,Q=>Q .ret σ w
 | _,_,_,_,_=>False
def Rep(N:Nat)(a:Act)(σ:Fr):Prop:=a.defers=[]∧a.tmps.size=N∧∀i,a.tmps.getD i undef = σ i
section
variable {P:Program}{N:Nat}
theorem Rep.eval{a:Act}{σ:Fr}(h:Rep N a σ):a.eval=ev σ:=by
 funext x
 cases x with
 | tmp t=>exact h.2.2 t
 | _=>rfl
theorem Rep.put{a:Act}{σ:Fr}(h:Rep N a σ){d:Option Nat}(hd:∀k,d=some k→k < N)(v:Value):Rep N (a.put d v) (up σ d v):=by
 cases d with
 | none=>exact h
 | some k=>
  have hk:=hd k rfl
  refine ⟨h.1,by simp [Act.put,h.2.1],fun i=>?_⟩
  simp only [Act.put,up]
  have hi:=h.2.2 i
  simp only [Array.getD_eq_getD_getElem?,Array.getElem?_setIfInBounds] at hi ⊢
  by_cases e:k=i
  ·subst e
   have:k < a.tmps.size:=by rw [h.2.1];exact hk
   simp [this]
  ·have e':Nat.beq i k=false:=by
    rw [Bool.eq_false_iff];intro hb;exact e (Nat.eq_of_beq_eq_true hb).symm
   simp only [e,if_false,e',cond_false]
   exact hi
theorem b3S(σ:Fr)(d:Option Nat)(v:Value)(i:Nat)(h:d≠some i):up σ d v i = σ i:=by
 cases d with
 | none=>rfl
 | some k=>
  have e':Nat.beq i k=false:=by
   rw [Bool.eq_false_iff];intro hb;exact h (by rw [Nat.eq_of_beq_eq_true hb])
  simp [up,e']
theorem b7L{ops:List Oper}{a:Act}{σ:Fr}(h:Rep N a σ)(j:Nat):yielded ops.toArray a.tmps j=yldX ops σ j:=by
 unfold yielded yldX
 simp only [List.getElem?_toArray]
 cases ho:ops[j]? with
 | none=>rfl
 | some o=>
  cases hd:o.dst with
  | none=>simp [hd]
  | some d=>
   have hi:=h.2.2 d
   simp only [Array.getD_eq_getD_getElem?] at hi
   simp only [Option.bind_some,hd]
   rw [←hi]
   cases a.tmps[d]? with
   | none=>rfl
   | some v=>cases v<;>rfl
theorem a4J{ops:List Oper}{a:Act}{σ:Fr}(h:Rep N a σ)(o:Oper):
  Region.wanted o (yielded ops.toArray a.tmps)=(match o.guard with | none=>true | some (j,want)=>yldX ops σ j == some want):=by
 unfold Region.wanted
 cases o.guard with
 | none=>rfl
 | some g=>obtain ⟨j,want⟩:=g;simp only [b7L h]
theorem b0u{s:Sem Next}{o:Oper}{a:Act}{w:World}{K:Value→World→Prop}{next:Act→World→Prop}{Q:Exit→Act→World→Prop}
  (hs:execOp a.eval o=s) (h:opK P s w K) (hn:∀v w',K v w'→next (a.put o.dst v) w'):o.wp P a w next Q:=by
 unfold Oper.wp
 rw [hs]
 unfold opK at h
 generalize s.run P w=r at h
 cases r with
 | halt x w'=>exact h.elim
 | ok n w'=>
  cases n<;>simp only at h<;>simp only [Oper.upon]
  case value v=>exact hn _ _ h
  case skip=>exact hn _ _ h
  case enter f args=>exact Calls.mono h fun e w'' ⟨v,he,hk⟩=>by subst he;exact hn _ _ hk
theorem a7r{ops:List Oper}{σ:Fr}{o:Oper}{v:Value}(h:mvX ops σ o=some v):gopS ops σ o=pure (.value v):=by
 unfold mvX at h
 unfold gopS
 split at h
 ·rename_i x hx
  cases hg:o.guard with
  | none=>
   simp only [hg,Option.some.injEq] at h
   subst h
   simp only [a0t,execOp,hx]
  | some g=>
   obtain ⟨j,want⟩:=g
   simp only [hg,Option.some.injEq] at h
   subst h
   simp only [a0t,execOp,hx,gsem,gval]
   cases (yldX ops σ j == some want)<;>rfl
 ·rename_i x hx
  cases hg:o.guard with
  | none=>
   simp only [hg,Option.some.injEq] at h
   subst h
   simp only [a0t,execOp,hx]
  | some g=>
   obtain ⟨j,want⟩:=g
   simp only [hg,Option.some.injEq] at h
   subst h
   simp only [a0t,execOp,hx,gsem,gval]
   cases (yldX ops σ j == some want)<;>rfl
 ·cases h
theorem b1Z{ops:List Oper}{o:Oper}{r:List Oper}{σ:Fr}{w:World}{K:Fr→World→Prop}(h:opsX P ops (o::r) σ w K):
  opK P (gopS ops σ o) w fun v w'=>opsX P ops r (up σ o.dst v) w' K:=by
 unfold opsX at h
 split at h
 ·rename_i v hv
  rw [a7r hv]
  exact h
 ·exact h
def dokO(N:Nat)(l:List Oper):Prop:=∀o∈l,∀k,o.dst=some k→k < N
theorem b2I{l:List Oper}(h:dokL N (dstsL l)=true):dokO N l:=by
 induction l with
 | nil=>intro o ho;cases ho
 | cons x l ih=>
  cases hd:x.dst with
  | none=>
   simp only [dstsL,hd] at h
   intro o ho k hk
   rcases List.mem_cons.1 ho with rfl | ho
   ·rw [hd] at hk;cases hk
   ·exact ih h o ho k hk
  | some d=>
   simp only [dstsL,hd,dokL,Bool.and_eq_true] at h
   intro o ho k hk
   rcases List.mem_cons.1 ho with rfl | ho
   ·rw [hd] at hk;cases hk
    exact Nat.le_of_ble_eq_true h.1
   ·exact ih h.2 o ho k hk
def Kept(D:List Nat)(σ σ':Fr):Prop:=∀i,memb D i=false→σ' i = σ i
theorem a5L(a b:List Nat)(i:Nat):memb (a++b) i=(memb a i||memb b i):=by
 induction a with
 | nil=>rfl
 | cons d a ih=>
  simp only [List.cons_append,memb]
  cases Nat.beq i d<;>simp [ih]
theorem Kept.refl(D:List Nat)(σ:Fr):Kept D σ σ:=fun _ _=>rfl
theorem Kept.trans{D:List Nat}{a b c:Fr}(h:Kept D a b)(k:Kept D b c):Kept D a c:=fun i hi=>(k i hi).trans (h i hi)
theorem Kept.left{D E:List Nat}{a b:Fr}(h:Kept D a b):Kept (D++E) a b:=fun i hi=>h i (by rw [a5L] at hi;exact (Bool.or_eq_false_iff.1 hi).1)
theorem Kept.right{D E:List Nat}{a b:Fr}(h:Kept E a b):Kept (D++E) a b:=fun i hi=>h i (by rw [a5L] at hi;exact (Bool.or_eq_false_iff.1 hi).2)
theorem Kept.up{D:List Nat}{a b:Fr}(h:Kept D a b){d:Option Nat}(hd:∀k,d=some k→memb D k=true)(v:Value):Kept D a (up b d v):=fun i hi=>
 (b3S b d v i (fun e=>by rw [hd i e] at hi;cases hi)).trans (h i hi)
theorem a6A{o:Oper}{l:List Oper}(ho:o∈l){k:Nat}(hk:o.dst=some k):memb (dstsL l) k=true:=by
 induction l with
 | nil=>cases ho
 | cons x l ih=>
  rcases List.mem_cons.1 ho with rfl | ho
  ·simp only [dstsL,hk,memb,Nat.beq_refl,cond_true]
  ·cases hd:x.dst with
   | none=>simp only [dstsL,hd];exact ih ho
   | some d=>
    simp only [dstsL,hd,memb]
    cases Nat.beq k d
    ·exact ih ho
    ·rfl
theorem b0U{ops:List Oper}{Q:Exit→Act→World→Prop}{K:Fr→World→Prop}{D:List Nat}{σ₀:Fr}:∀(l:List Oper),(∀o∈l,o∈ops)→dokO N ops→(∀o∈ops,∀k,o.dst=some k→memb D k=true)→
  ∀(σ:Fr)(a:Act)(w:World),Rep N a σ→Kept D σ₀ σ→opsX P ops l σ w K→
  (∀σ' a' w',Rep N a' σ'→Kept D σ₀ σ'→K σ' w'→Q .normal a' w')→wpList P ops.toArray Q l a w:=by
 intro l
 induction l with
 | nil=>intro _ _ _ σ a w hr hk h hq;exact hq _ _ _ hr hk h
 | cons o r ih=>
  intro hsub hdok hD σ a w hr hk h hq
  have hstep:=b1Z h
  have hput:∀v,Rep N (a.put o.dst v) (up σ o.dst v):=fun v=>hr.put (fun k hk=>hdok o (hsub o (List.mem_cons_self ..)) k hk) v
  have hkeep:∀v,Kept D σ₀ (up σ o.dst v):=fun v=>hk.up (fun k hk=>hD o (hsub o (List.mem_cons_self ..)) k hk) v
  have hnext:∀v w',opsX P ops r (up σ o.dst v) w' K→wpList P ops.toArray Q r (a.put o.dst v) w':=fun v w' hh=>
   ih (fun o' ho'=>hsub o' (List.mem_cons_of_mem _ ho')) hdok hD _ _ _ (hput v) (hkeep v) hh hq
  refine wpList_step fun K' hK'=>?_
  rw [a4J hr]
  unfold gopS at hstep
  simp only [a0t] at hstep
  cases hg:o.guard with
  | none=>
   simp only [hg] at hstep
   simp only [if_true]
   exact b0u (by rw [hr.eval]) hstep fun v w' hh=>hK' _ _ (hnext v w' hh)
  | some g=>
   obtain ⟨j,want⟩:=g
   simp only [hg,gsem] at hstep
   by_cases hw:(yldX ops σ j == some want)=true
   ·simp only [hw,cond_true] at hstep
    simp only [hw,if_true]
    exact b0u (by rw [hr.eval]) hstep fun v w' hh=>hK' _ _ (hnext v w' hh)
   ·have hw':(yldX ops σ j == some want)=false:=by simpa using hw
    simp only [hw',cond_false] at hstep
    simp only [hw',Bool.false_eq_true,if_false]
    exact hK' _ _ (hnext undef w hstep)
theorem b9X{ops:List Oper}{w:World}{K:Fr→Prop}{Q:Act→Prop}{D:List Nat}{σ₀:Fr}:∀(l:List Oper),(∀o∈l,o∈ops)→dokO N ops→(∀o∈ops,∀k,o.dst=some k→memb D k=true)→
  ∀(σ:Fr)(a:Act),Rep N a σ→Kept D σ₀ σ→qopsX P ops w l σ K→
  (∀σ' a',Rep N a' σ'→Kept D σ₀ σ'→K σ'→Q a')→wpQuiet P ops.toArray (Ext w) Q l a:=by
 intro l
 induction l with
 | nil=>intro _ _ _ σ a hr hk h hq;exact hq _ _ hr hk h
 | cons o r ih=>
  intro hsub hdok hD σ a hr hk h hq
  have hstep:qK P w (gopS ops σ o) fun v=>qopsX P ops w r (up σ o.dst v) K:=by
   unfold qopsX at h
   split at h
   ·rename_i v hv
    rw [a7r hv]
    exact ⟨v,fun w' _=>⟨rfl,rfl⟩,h⟩
   ·exact h
  have hput:∀v,Rep N (a.put o.dst v) (up σ o.dst v):=fun v=>hr.put (fun k hk=>hdok o (hsub o (List.mem_cons_self ..)) k hk) v
  have hkeep:∀v,Kept D σ₀ (up σ o.dst v):=fun v=>hk.up (fun k hk=>hD o (hsub o (List.mem_cons_self ..)) k hk) v
  have hnext:∀v,qopsX P ops w r (up σ o.dst v) K→wpQuiet P ops.toArray (Ext w) Q r (a.put o.dst v):=fun v hh=>
   ih (fun o' ho'=>hsub o' (List.mem_cons_of_mem _ ho')) hdok hD _ _ (hput v) (hkeep v) hh hq
  refine wpQuiet_step fun K' hK'=>?_
  rw [a4J hr]
  obtain ⟨v,hv,hh⟩:=hstep
  unfold gopS at hv
  simp only [a0t] at hv
  have plain:(∀w',Ext w w'→Oper.quietUpon P (Ext w) w' v ((execOp (ev σ) o).run P w'))→Oper.quiet P o a (Ext w) K':=fun hv=>
   ⟨v,fun w' hw'=>by unfold Oper.quietAt;rw [hr.eval];exact hv w' hw',hK' _ (hnext v hh)⟩
  cases hg:o.guard with
  | none=>
   simp only [hg] at hv
   simp only [if_true]
   exact plain hv
  | some g=>
   obtain ⟨j,want⟩:=g
   simp only [hg,gsem] at hv
   by_cases hw:(yldX ops σ j == some want)=true
   ·simp only [hw,cond_true] at hv
    simp only [hw,if_true]
    exact plain hv
   ·have hw':(yldX ops σ j == some want)=false:=by simpa using hw
    simp only [hw',cond_false] at hv
    simp only [hw',Bool.false_eq_true,if_false]
    have:=hv w (Ext.refl w)
    have hu:undef=v:=this.2
    rw [hu]
    exact hK' _ (hnext v hh)
theorem Ext.drew(w:World):Ext w { w with drawn:=w.drawn+1 }:=(Below.refl _ w).drew
theorem b2b(S:List Nat)(σ:Fr)(i:Nat):pickS S (S.map σ) i=some (σ i)∨pickS S (S.map σ) i=none:=by
 induction S with
 | nil=>exact .inr rfl
 | cons s S ih=>
  simp only [List.map_cons,pickS,nth,List.tail_cons]
  cases h:Nat.beq i s
  ·exact ih
  ·left
   rw [Nat.eq_of_beq_eq_true h]
   rfl
theorem b2c{σ σ1:Fr}{D S:List Nat}(h:Kept D σ σ1):fill σ D S (S.map σ1) σ1 = σ1:=by
 funext i
 unfold fill
 rcases b2b S σ1 i with e | e<;>rw [e]
 cases hm:memb D i
 ·exact (h i hm).symm
 ·rfl
theorem a8Q{σ σ1:Fr}{D:List Nat}(h:Kept D σ σ1):fill' σ D σ1 = σ1:=by
 funext i
 unfold fill'
 cases hm:memb D i
 ·exact (h i hm).symm
 ·rfl
theorem a2l(a b:List Nat):dokL N (a++b)=(dokL N a&&dokL N b):=by
 induction a with
 | nil=>rfl
 | cons d a ih=>simp only [List.cons_append,dokL,ih,Bool.and_assoc]
theorem a9U(hm:P.follows .mixedOrders=true):∀(c:Code)(h:Hint)(σ:Fr)(a:Act)(w:World)(Q:Exit→Fr→World→Prop)(Q':Exit→Act→World→Prop),
  WPx P c h σ w Q→dokL N (dsts c)=true→lexOk c=true→Rep N a σ→
  (∀e σ' a' w',Rep N a' σ'→Kept (dsts c) σ σ'→Q e σ' w'→Q' e a' w')→c.wp P Q' a w:=by
 intro c
 induction c with
 | skip=>intro h σ a w Q Q' hx _ _ hr hq;exact wp_skip (hq _ _ _ _ hr (Kept.refl _ _) hx)
 | label l=>intro h σ a w Q Q' hx _ _ hr hq;exact wp_label (hq _ _ _ _ hr (Kept.refl _ _) hx)
 | exit id=>intro h σ a w Q Q' hx _ _ hr hq;exact wp_exit (hq _ _ _ _ hr (Kept.refl _ _) hx)
 | ret=>intro h σ a w Q Q' hx _ _ hr hq;exact wp_ret (hq _ _ _ _ hr (Kept.refl _ _) hx)
 | refuse s=>intro h σ a w Q Q' hx _ _ hr hq;exact hx.elim
 | goto l=>intro h σ a w Q Q' hx _ _ hr hq;exact hx.elim
 | scope c ih=>intro h σ a w Q Q' hx _ _ hr hq;exact hx.elim
 | rangeFunc f ps x y ih1 ih2=>intro h σ a w Q Q' hx _ _ hr hq;exact hx.elim
 | region id ops draw=>
  intro h σ a w Q Q' hx hd hlex hr hq
  have hdo:dokO N ops.toList:=b2I hd
  have hD:∀o∈ops.toList,∀k,o.dst=some k→memb (dstsL ops.toList) k=true:=fun o ho k hk=>a6A ho hk
  cases draw with
  | false=>
   refine wp_region_list ?_
   have:=b0U (P:=P) (N:=N) (ops:=ops.toList) (Q:=Q') (D:=dstsL ops.toList) (σ₀:=σ) ops.toList (fun _ h=>h) hdo hD σ a w hr (Kept.refl _ _) hx
    (fun σ' a' w' hr' hk' hh=>hq _ _ _ _ hr' hk' hh)
   simpa using this
  | true=>
   refine wp_region_quiet (C:=Ext w) hm hlex (Ext.drew w) ?_
   have:=b9X (P:=P) (N:=N) (ops:=ops.toList) (Q:=fun a'=>∀w',Ext w w'→Q' .normal a' w') (D:=dstsL ops.toList) (σ₀:=σ) ops.toList (fun _ h=>h) hdo hD σ a hr (Kept.refl _ _) hx
    (fun σ' a' hr' hk' hh w' hw'=>hq _ _ _ _ hr' hk' (hh w' hw'))
   simpa using this
 | seq x y ihx ihy=>
  intro h σ a w Q Q' hx hd hlex hr hq
  have hd':=hd
  simp only [dsts,a2l,Bool.and_eq_true] at hd'
  simp only [lexOk,Bool.and_eq_true] at hlex
  refine wp_seq ?_
  unfold WPx at hx
  split at hx
  ·rename_i S hhx hhy
   refine ihx hhx σ a w _ _ hx hd'.1 hlex.1 hr ?_
   intro e σ1 a1 w1 hr1 hk1 hh
   cases e with
   | normal=>
    have hh1:=hh σ1
    rw [b2c hk1] at hh1
    exact ihy hhy σ1 a1 w1 _ _ hh1 hd'.2 hlex.2 hr1 fun e' σ2 a2 w2 hr2 hk2 hh2=>hq _ _ _ _ hr2 (hk1.left.trans hk2.right) hh2
   | exit i=>exact hq _ _ _ _ hr1 hk1.left hh
   | goto l=>exact hq _ _ _ _ hr1 hk1.left hh
   | ret=>exact hq _ _ _ _ hr1 hk1.left hh
   | panic ch=>exact hq _ _ _ _ hr1 hk1.left hh
   | outgrown=>exact hq _ _ _ _ hr1 hk1.left hh
  ·rename_i hhx hhy
   refine ihx hhx σ a w _ _ hx hd'.1 hlex.1 hr ?_
   intro e σ1 a1 w1 hr1 hk1 hh
   cases e with
   | normal=>exact ihy hhy σ1 a1 w1 _ _ hh hd'.2 hlex.2 hr1 fun e' σ2 a2 w2 hr2 hk2 hh2=>hq _ _ _ _ hr2 (hk1.left.trans hk2.right) hh2
   | exit i=>exact hq _ _ _ _ hr1 hk1.left hh
   | goto l=>exact hq _ _ _ _ hr1 hk1.left hh
   | ret=>exact hq _ _ _ _ hr1 hk1.left hh
   | panic ch=>exact hq _ _ _ _ hr1 hk1.left hh
   | outgrown=>exact hq _ _ _ _ hr1 hk1.left hh
  ·exact hx.elim
 | cond c x y ihx ihy=>
  intro h σ a w Q Q' hx hd hlex hr hq
  have hd':=hd
  simp only [dsts,a2l,Bool.and_eq_true] at hd'
  simp only [lexOk,Bool.and_eq_true] at hlex
  have go:∀hhx hhy,xcond (ev σ c) (WPx P x hhx σ w Q) (WPx P y hhy σ w Q)→(Code.cond c x y).wp P Q' a w:=by
   intro hhx hhy hxc
   unfold xcond at hxc
   split at hxc
   ·rename_i hv
    exact wp_cond_true (by rw [hr.eval];exact hv) (ihx hhx σ a w _ _ hxc hd'.1 hlex.1 hr fun e σ' a' w' hr' hk' hh=>hq _ _ _ _ hr' hk'.left hh)
   ·rename_i hv
    exact wp_cond_false (by rw [hr.eval];exact hv) (ihy hhy σ a w _ _ hxc hd'.2 hlex.2 hr fun e σ' a' w' hr' hk' hh=>hq _ _ _ _ hr' hk'.right hh)
   ·exact hxc.elim
  unfold WPx at hx
  split at hx
  ·exact go _ _ hx
  ·exact go _ _ hx
 | block id c ih=>
  intro h σ a w Q Q' hx hd hlex hr hq
  unfold WPx at hx
  split at hx
  ·rename_i hc
   refine wp_block (ih hc σ a w _ _ hx hd hlex hr ?_)
   intro e σ' a' w' hr' hk' hh
   cases e with
   | exit i=>
    simp only [inBlockX] at hh
    simp only [Exit.inBlock]
    by_cases hi:i=id
    ·subst hi
     simp only [Nat.beq_refl,cond_true] at hh
     simp only [if_true]
     exact hq _ _ _ _ hr' hk' hh
    ·have:Nat.beq i id=false:=by rw [Bool.eq_false_iff];intro hb;exact hi (Nat.eq_of_beq_eq_true hb)
     simp only [this,cond_false] at hh
     simp only [hi,if_false]
     exact hq _ _ _ _ hr' hk' hh
   | normal=>exact hq _ _ _ _ hr' hk' hh
   | goto l=>exact hq _ _ _ _ hr' hk' hh
   | ret=>exact hq _ _ _ _ hr' hk' hh
   | panic ch=>exact hq _ _ _ _ hr' hk' hh
   | outgrown=>exact hq _ _ _ _ hr' hk' hh
  ·exact hx.elim
 | loop c ih=>
  intro h σ a w Q Q' hx hd hlex hr hq
  unfold WPx at hx
  split at hx
  ·rename_i S hc
   obtain ⟨I,μ,h0,hround⟩:=hx
   refine wp_loop (fun a' w'=>∃σ',Rep N a' σ'∧Kept (dsts c) σ σ'∧I (S.map σ') w') (fun a' w'=>μ (S.map fun i=>a'.tmps.getD i undef) w') ⟨σ,hr,Kept.refl _ _,h0⟩ ?_
   rintro a1 w1 ⟨σ1,hr1,hk1,hI1⟩
   have hb:=hround σ1 w1 hI1
   dsimp only at hb
   rw [a8Q hk1] at hb
   have hσ1:(fun i=>a1.tmps.getD i undef) = σ1:=funext hr1.2.2
   rw [hσ1]
   refine ih hc σ1 a1 w1 _ _ hb hd hlex hr1 ?_
   intro e σ2 a2 w2 hr2 hk2 hh
   cases e with
   | normal=>
    have hσ2:(fun i=>a2.tmps.getD i undef) = σ2:=funext hr2.2.2
    refine ⟨⟨σ2,hr2,hk1.trans hk2,hh.1⟩,?_⟩
    rw [hσ2]
    exact hh.2
   | exit i=>exact hq _ _ _ _ hr2 (hk1.trans hk2) hh
   | goto l=>exact hq _ _ _ _ hr2 (hk1.trans hk2) hh
   | ret=>exact hq _ _ _ _ hr2 (hk1.trans hk2) hh
   | panic ch=>exact hq _ _ _ _ hr2 (hk1.trans hk2) hh
   | outgrown=>exact hq _ _ _ _ hr2 (hk1.trans hk2) hh
  ·exact hx.elim
def cellAt(t:TypeId)(v:Value):Sem Value:=do loadVar t (← asAddr v)
def xcell(P:Program)(t:TypeId)(a:Value)(w:World)(K:Value→Prop):Prop:=∃v,(cellAt t a).run P w=.ok v w∧K v
def resX(P:Program)(σ:Fr):List ResultVar→World→(List Value→Prop)→Prop
 | [],_,K=>K []
 | .tmp t::r,w,K=>resX P σ r w fun vs=>K (σ t::vs)
 | .cell a t::r,w,K=>xcell P t (σ a) w fun v=>resX P σ r w fun vs=>K (v::vs)
def retV(vs:List Value):Value:=
 match vs with
 | [v]=>v
 | vs=>.tuple vs.toArray
def bodyX(P:Program)(rs:List ResultVar)(R:Value→World→Prop):Exit→Fr→World→Prop
 | .normal,σ,w=>resX P σ rs w fun vs=>R (retV vs) w
 | .ret,σ,w=>resX P σ rs w fun vs=>R (retV vs) w
 | _,_,_=>False
def a2I:List Value→Fr
 | [],_=>undef
 | v::_,0=>v
 | _::l,n+1=>a2I l n
def callX(P:Program)(rs:List ResultVar)(c:Code)(h:Hint)(args:List Value)(w:World)(R:Value→World→Prop):Prop:=
 WPx P c h (a2I args) w (bodyX P rs R)
theorem a7Y(l:List Value)(i:Nat):a2I l i=l.getD i undef:=by
 induction l generalizing i with
 | nil=>simp [a2I]
 | cons v l ih=>
  cases i with
  | zero=>simp [a2I]
  | succ i=>simp only [a2I,ih];simp
theorem b5L{a:Act}{σ:Fr}(hr:Rep N a σ){w:World}:∀(l:List ResultVar)(K:List Value→Prop),resX P σ l w K→
  ∃vs,((l.mapM (m:=Sem) fun
   | .tmp t=>pure (a.tmps.getD t undef)
   | .cell b t=>do loadVar t (← asAddr (a.tmps.getD b undef))).run P w=.ok vs w)∧K vs:=by
 intro l
 induction l with
 | nil=>intro K h;exact ⟨[],by simp,h⟩
 | cons x l ih=>
  intro K h
  cases x with
  | tmp t=>
   obtain ⟨vs,h1,h2⟩:=ih _ h
   refine ⟨σ t::vs,?_,h2⟩
   rw [List.mapM_cons]
   rw [Sem.run_bind,Sem.run_pure,Result.andThen_ok,Sem.run_bind,h1,Result.andThen_ok,Sem.run_pure,hr.2.2]
  | cell b t=>
   obtain ⟨v,hv,h⟩:=h
   obtain ⟨vs,h1,h2⟩:=ih _ h
   refine ⟨v::vs,?_,h2⟩
   rw [List.mapM_cons]
   have hv':(do loadVar t (← asAddr (a.tmps.getD b undef)):Sem Value).run P w=.ok v w:=by rw [hr.2.2];exact hv
   rw [Sem.run_bind,hv',Result.andThen_ok,Sem.run_bind,h1,Result.andThen_ok,Sem.run_pure]
theorem a5g{fn:Func}{R:Value→World→Prop}{e:Exit}{σ:Fr}{a:Act}{w:World}(hr:Rep N a σ)(h:bodyX P fn.results.toList R e σ w):
  bodyPost P fn (fun e w'=>∃v,e=.returned v∧R v w') e a w:=by
 have key:resX P σ fn.results.toList w (fun vs=>R (retV vs) w)→∃v,(results fn a.tmps).run P w=.ok v w∧R v w:=by
  intro h
  obtain ⟨vs,h1,h2⟩:=b5L hr _ _ h
  refine ⟨retV vs,?_,h2⟩
  unfold results
  rw [Array.mapM_eq_mapM_toList]
  simp only [Sem.run_bind,map_eq_pure_bind,Sem.run_pure]
  refine (congrArg (fun r:Result (List Value)=>(r.andThen fun(x:List Value) w'=>Result.ok x.toArray w').andThen fun(x:Array Value) w'=>Result.ok (if h:x.size=1 then x[0] else Value.tuple x) w') h1).trans ?_
  simp only [Result.andThen_ok]
  congr 1
  cases vs with
  | nil=>rfl
  | cons x l=>
   cases l with
   | nil=>rfl
   | cons y l=>
    rw [dif_neg (by simp)]
    rfl
 cases e with
 | normal=>obtain ⟨v,h1,h2⟩:=key h;exact ⟨hr.1,v,h1,v,rfl,h2⟩
 | ret=>obtain ⟨v,h1,h2⟩:=key h;exact ⟨hr.1,v,h1,v,rfl,h2⟩
 | exit i=>exact h.elim
 | goto l=>exact h.elim
 | panic ch=>exact h.elim
 | outgrown=>exact h.elim
theorem a5M{f:FuncId}{fn:Func}{c:Code}{h:Hint}{args:List Value}{w:World}{R:Value→World→Prop}(hf:P.funcs[f]? = some fn)(hb:fn.body=some c)
  (hn:args.length≤fn.ntmps) (hd:dokL fn.ntmps (dsts c)=true) (hl:lexOk c=true) (hm:P.follows .mixedOrders=true) (hx:callX P fn.results.toList c h args w R):Cv P f args.toArray w R:=by
 refine calls_of_wp hf hb ?_
 refine a9U (N:=fn.ntmps) hm c h (a2I args) _ w _ _ hx hd hl ⟨rfl,by simp;omega,fun i=>?_⟩ (fun e σ' a' w' hr' _ hh=>a5g hr' hh)
 rw [a7Y]
 simp only [Array.getD_eq_getD_getElem?,List.getD_eq_getElem?_getD]
 by_cases hi:i < args.length
 ·simp [Array.getElem?_append,hi]
 ·simp only [Array.getElem?_append,List.size_toArray,hi,if_false,Array.getElem?_replicate]
  rw [List.getElem?_eq_none (by omega)]
  split<;>rfl
end
end Go.Proofs.YtoflkliecagjcaaGreatDoor.Od
