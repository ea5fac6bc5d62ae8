/- A second reading of the model's code: weakest preconditions over a frame that is a function from slots to values, with cuts at joins and loops where only the live slots are kept. Proved once from the model's own rules; no program in sight. -/
import Derived.Calls
import Derived.Orders
import Derived.Deep.Quiet
import Derived.Tactics
import Derived.Below
import Derived.Scope
namespace Go.Proofs.YthaaobpfbgcfiaaGreatDoor
open Go.RowKit
abbrev Fr:=Nat→Value
def up(σ:Fr)(d:Option Nat)(v:Value):Fr:=
 match d with
 | some d=>fun i=>bif Nat.beq i d then v else σ i
 | none=>σ
def ev(σ:Fr):Operand→Value
 | .tmp t=>σ t
 | .const v=>v
 | .global g=>.pointer (some ⟨g,0,none⟩)
 | .func f=>.func (.func f) #[] #[]
def asB:Value→Option Bool
 | .bool b=>some b
 | _=>none
abbrev Pan:=List PanicEntry→World→Prop
def endK(K:Value→World→Prop)(E:Pan):Ending→World→Prop
 | .returned v,w=>K v w
 | .panicked c,w=>E c w
 | .outgrown,_=>False
def Cv(P:Program)(f:FuncId)(args:Array Value)(w:World)(K:Value→World→Prop)(E:Pan):Prop:=Calls P f args w (endK K E)
theorem Cv.mono{P:Program}{f:FuncId}{args:Array Value}{w:World}{K K':Value→World→Prop}{E E':Pan}(h:Cv P f args w K E)(hk:∀v w',K v w'→K' v w')(he:∀c w',E c w'→E' c w'):Cv P f args w K' E':=
 Calls.mono h fun e w' r=>by
  cases e with
  | returned v=>exact hk _ _ r
  | panicked c=>exact he _ _ r
  | outgrown=>exact r
def opK(P:Program)(E:Pan)(s:Sem Next)(w:World)(K:Value→World→Prop):Prop:=
 match s.run P w with
 | .ok (.value v) w'=>K v w'
 | .ok .skip w'=>K undef w'
 | .ok (.enter f args) w'=>Cv P f args w' K E
 | .halt (.panic v) w'=>E [{ v,recovered:=false }] w'
 | _=>False
def yldX(ops:List Oper)(σ:Fr)(j:Nat):Option Bool:=
 match ops[j]? with
 | some o=>match o.dst with
  | some d=>asB (σ d)
  | none=>none
 | none=>none
def gsem(b:Option Bool)(want:Bool)(s:Sem Next):Sem Next:=bif b == some want then s else pure (.value undef)
def gval(b:Option Bool)(want:Bool)(x:Value):Value:=bif b == some want then x else undef
def xV(s:Sem Value):Sem Next:=do pure (.value (← s))
def xU(s:Sem Unit):Sem Next:=do s;pure .skip
def xPick(c a b:Value):Sem Next:=do pure (.value (if ← asBool c then a else b))
def xBin(op:BinOp)(t:TypeId)(x y:Operand)(a b:Value):Sem Next:=do pure (.value (← (do eqGuard op t x y a b;binOp op t a b)))
def xCall(f:Value)(args:List Value):Sem Next:=do let d ← Deferred.ofValue f args.toArray;invoke d.target d.args
def xInvoke(r:Value)(name:String)(args:List Value):Sem Next:=invoke (.fn (.method name) #[]) (r::args).toArray
def xNil (v : Value) : Sem Next := execOp (fun _ => v) ⟨none, .nilCheck (.const .nilIface), 0, "", #[], none⟩
def isK:Operand→Bool
 | .const _=>true
 | _=>false
def xBuiltin(b:Builtin)(ts:Array TypeId)(type:TypeId)(ks:List Bool)(args:List Value):Sem Next:=invoke (.builtin b ts type ks.toArray) args.toArray
def evP(σ:Fr):List (Nat×Operand)→List (Nat×Value)
 | []=>[]
 | p::l=>(p.1,ev σ p.2)::evP σ l
def semX(σ:Fr)(o:Oper):Sem Next:=
 match o.op with
 | .pick c a b=>xPick (ev σ c) (ev σ a) (ev σ b)
 | .binOp op t x y _=>xBin op t x y (ev σ x) (ev σ y)
 | .call c=>
  match c.callee with
  | .value f=>xCall (ev σ f) (c.args.toList.map (ev σ))
  | .invoke r name=>xInvoke (ev σ r) name (c.args.toList.map (ev σ))
  | .builtin b=>xBuiltin b c.argTypes o.type (c.args.toList.map isK) (c.args.toList.map (ev σ))
 | .build t ps=>xV (Instr.build t (evP σ ps.toList).toArray)
 | .buildSlice t n ps=>xV (Instr.buildSlice t n (evP σ ps.toList).toArray)
 | .nilCheck x=>xNil (ev σ x)
 | .makeFunc fn first captured=>xV (Instr.makeFunc fn (first.toList.map (ev σ)).toArray (captured.toList.map (ev σ)).toArray)
 | _=>execOp (ev σ) o
theorem mapA{α β:Type}(f:α→β)(l:Array α):(l.toList.map f).toArray=l.map f:=by
 rw [←Array.toList_map,Array.toArray_toList]
theorem c2q(σ:Fr)(ps:Array (Nat×Operand)):(evP σ ps.toList).toArray=ps.map fun (i,x)=>(i,ev σ x):=by
 have h:∀l:List (Nat×Operand),evP σ l=l.map fun (i,x)=>(i,ev σ x):=by
  intro l
  induction l with
  | nil=>rfl
  | cons p l ih=>simp only [evP,ih,List.map_cons]
 rw [h,mapA]
theorem a7Y(σ:Fr)(o:Oper):semX σ o=execOp (ev σ) o:=by
 obtain ⟨dst,op,type,pos,after,guard⟩:=o
 cases op<;>try rfl
 case call c=>
  obtain ⟨callee,args,ts⟩:=c
  cases callee with
  | value f=>simp only [semX,execOp,resolve,xCall,mapA]
  | invoke r name=>
   have e:(ev σ r::args.toList.map (ev σ)).toArray=#[ev σ r]++args.map (ev σ):=by
    rw [←mapA]
    simp only [List.append_toArray,List.singleton_append]
   simp only [semX,execOp,resolve,xInvoke,e]
   rfl
  | builtin b=>
   simp only [semX,execOp,resolve,xBuiltin]
   have:(args.toList.map isK).toArray=args.map (fun | .const _=>true | _=>false):=by
    rw [mapA]
    exact congrArg (fun f=>args.map f) (funext fun x=>by cases x<;>rfl)
   rw [this,mapA]
   rfl
 case build t ps=>simp only [semX,execOp,xV,c2q]
 case buildSlice t n ps=>simp only [semX,execOp,xV,c2q]
 case makeFunc fn first captured=>simp only [semX,execOp,xV,mapA]
def gopS(ops:List Oper)(σ:Fr)(o:Oper):Sem Next:=
 match o.guard with
 | none=>semX σ o
 | some (j,want)=>gsem (yldX ops σ j) want (semX σ o)
def mvX(ops:List Oper)(σ:Fr)(o:Oper):Option Value:=
 match o.op with
 | .move x | .assign x=>match o.guard with
  | none=>some (ev σ x)
  | some (j,want)=>some (gval (yldX ops σ j) want (ev σ x))
 | _=>none
def opsX(P:Program)(E:Pan)(ops:List Oper):List Oper→Fr→World→(Fr→World→Prop)→Prop
 | [],σ,w,K=>K σ w
 | o::r,σ,w,K=>
  match mvX ops σ o with
  | some v=>opsX P E ops r (up σ o.dst v) w K
  | none=>opK P E (gopS ops σ o) w fun v w'=>opsX P E ops r (up σ o.dst v) w' K
def Ext(w w':World):Prop:=Below w.heap.size w w'
theorem Ext.refl(w:World):Ext w w:=Below.refl _ _
theorem Ext.trans{a b c:World}(h:Ext a b)(k:Ext b c):Ext a c:=Below.trans h (k.mono h.size)
def qP(P:Program)(s:Sem Next)(K:Value→Prop):Prop:=∃v,(∀w',s.run P w'=.ok (.value v) w')∧K v
def sameB(g:Option Nat)(w w':World):Prop:=
 match g with
 | some g=>w'.heap[g]? = w.heap[g]?
 | none=>True
theorem sameB.refl(g:Option Nat)(w:World):sameB g w w:=by
 cases g
 ·trivial
 ·rfl
theorem sameB.trans{g:Option Nat}{a b c:World}(h:sameB g a b)(k:sameB g b c):sameB g a c:=by
 cases g
 ·trivial
 ·exact Eq.trans k h
def qL(P:Program)(w:World)(g:Option Nat)(s:Sem Next)(K:Value→Prop):Prop:=∃v,(∀w',sameB g w w'→s.run P w'=.ok (.value v) w')∧K v
def keepX:List (Option Nat)→World→World→Prop→Prop
 | [],_,_,p=>p
 | g::l,w,w',p=>sameB g w w'∧keepX l w w' p
def blk:Value→Option Nat
 | .pointer (some a)=>some a.block
 | .map (some r)=>some r
 | _=>none
def dX(w:World)(K:World→Prop):Prop:=K { w with drawn:=w.drawn+1 }
inductive Ord where
 | done
 | early (i:Nat) (k:Ord)
 | load (i:Nat) (k:Ord)
 | step (i:Nat) (k:Ord)
 | alt (i:Nat) (k r:Ord)
def memb:List Nat→Nat→Bool
 | [],_=>false
 | d::l,i=>bif Nat.beq i d then true else memb l i
def dstsL:List Oper→List Nat
 | []=>[]
 | o::l=>match o.dst with
  | some d=>d::dstsL l
  | none=>dstsL l
noncomputable def dsts(c:Code):List Nat:=
 Code.rec (motive:=fun _=>List Nat) [] (fun _ ops _=>dstsL ops.toList) (fun _ _ x y=>x++y) (fun _ _ _ x y=>x++y) (fun _ _ x=>x) (fun _ x=>x) (fun _ _ _ _ _ _=>[]) (fun _=>[]) (fun _ x=>x) (fun _=>[]) (fun _=>[]) [] (fun _=>[]) c
theorem c4D(x y:Code):dsts (.seq x y)=dsts x++dsts y:=rfl
theorem c2r(o:Operand)(x y:Code):dsts (.cond o x y)=dsts x++dsts y:=rfl
def rdB(σ:Fr)(o:Oper):Option Nat:=
 match o.op with
 | .load _ a=>blk (ev σ a)
 | .lookup _ a _ _=>blk (ev σ a)
 | .call c=>blk (ev σ (c.args.getD 0 (.const undef)))
 | _=>none
def nthN:List Nat→Nat→Nat
 | [],_=>0
 | l::_,0=>l
 | _::r,n+1=>nthN r n
def selB(nd:Nat):List (Nat×Option Nat)→List (Option Nat)
 | []=>[]
 | p::l=>bif nd.testBit p.1 then p.2::selB nd l else selB nd l
def regX(P:Program)(E:Pan)(ops:List Oper)(need:List Nat)(pd:List (Nat×Option Nat)):Ord→Fr→World→(Fr→World→Prop)→Prop
 | .done,σ,w,K=>K σ w
 | .early i k,σ,w,K=>
  match ops[i]? with
  | none=>False
  | some o=>
   match mvX ops σ o with
   | some v=>regX P E ops need pd k (up σ o.dst v) w K
   | none=>qP P (gopS ops σ o) fun v=>regX P E ops need pd k (up σ o.dst v) w K
 | .load i k,σ,w,K=>
  match ops[i]? with
  | none=>False
  | some o=>qL P w (rdB σ o) (gopS ops σ o) fun v=>regX P E ops need ((i,rdB σ o)::pd) k (up σ o.dst v) w K
 | .step i k,σ,w,K=>
  match ops[i]? with
  | none=>False
  | some o=>opK P E (gopS ops σ o) w fun v w'=>keepX (selB (nthN need i) pd) w w' (regX P E ops need pd k (up σ o.dst v) w' K)
 | .alt i k r,σ,w,K=>
  match ops[i]? with
  | none=>False
  | some o=>(opK P E (gopS ops σ o) w fun v w'=>keepX (selB (nthN need i) pd) w w' (regX P E ops need pd k (up σ o.dst v) w' K))∧regX P E ops need pd r σ w K
def altsO:Ord→List Nat
 | .step i _=>[i]
 | .alt i _ r=>i::altsO r
 | _=>[]
def depM(o:Oper):Nat:=o.after.toList.foldr (fun e m=>bif Region.binds .any e then m ||| (1 <<< e.on) else m) 0
def slotM(l:List Nat):Nat:=l.foldr (fun t m=>m ||| (1 <<< t)) 0
def dstM(o:Oper):Nat:=
 match o.dst with
 | some d=>1 <<< d
 | none=>0
def msGo(ops:Array Oper):List Oper→List (Nat×Nat×Nat)→Bool
 | [],[]=>true
 | o::os,(d,t,l)::r=>Nat.beq d (depM o)&&(Nat.beq t (dstM o)&&(Nat.beq l (slotM (o.looksAt ops))&&msGo ops os r))
 | _,_=>false
def pairOk(i j:Nat)(p q:Nat×Nat×Nat):Bool:=
 (Nat.beq (p.2.1 &&& (q.2.2 ||| q.2.1)) 0&&Nat.beq (q.2.1 &&& p.2.2) 0)||(q.1.testBit i||p.1.testBit j)
def pairsGo(i:Nat)(p:Nat×Nat×Nat):Nat→List (Nat×Nat×Nat)→Bool
 | _,[]=>true
 | j,q::r=>pairOk i j p q&&pairsGo i p (j+1) r
def pairsAll:Nat→List (Nat×Nat×Nat)→Bool
 | _,[]=>true
 | i,p::r=>pairsGo i p (i+1) r&&pairsAll (i+1) r
def rdyB(d L:Nat):Bool:=Nat.beq (d &&& L) d
def rdyIn(L:Nat)(alts:List Nat):Nat→List (Nat×Nat×Nat)→Bool
 | _,[]=>true
 | k,p::r=>(L.testBit k||(!rdyB p.1 L||memb alts k))&&rdyIn L alts (k+1) r
def nthM:List (Nat×Nat×Nat)→Nat→Option (Nat×Nat×Nat)
 | [],_=>none
 | p::_,0=>some p
 | _::r,n+1=>nthM r n
def isRdy(ms:List (Nat×Nat×Nat))(L i:Nat):Bool:=
 match nthM ms i with
 | some p=>!L.testBit i&&rdyB p.1 L
 | none=>false
def waitM(i:Nat):Nat→Nat→List (Nat×Nat×Nat)→Nat
 | _,acc,[]=>acc
 | k,acc,p::r=>bif Nat.beq (p.1 &&& acc) 0 then waitM i (k+1) acc r else waitM i (k+1) (acc ||| (1 <<< k)) r
def needGo(L W i:Nat):Nat→List Nat→List (Nat×Nat×Nat)→Bool
 | _,_,[]=>true
 | k,[],_::r=>(Nat.beq k i||(L.testBit k||W.testBit k))&&needGo L W i (k+1) [] r
 | k,n::ns,_::r=>(Nat.beq k i||(L.testBit k||(n.testBit i||W.testBit k)))&&needGo L W i (k+1) ns r
def okM(ms:List (Nat×Nat×Nat))(need:List Nat):Nat→Bool→Ord→Nat→Bool
 | _,_,.done,L=>rdyIn L [] 0 ms
 | f+1,_,.early i k,L=>isRdy ms L i&&okM ms need f true k (L ||| (1 <<< i))
 | f+1,_,.load i k,L=>isRdy ms L i&&(needGo L (waitM i 0 (1 <<< i) ms) i 0 need ms&&okM ms need f true k (L ||| (1 <<< i)))
 | f+1,hd,.step i k,L=>(!hd||(isRdy ms L i&&rdyIn L [i] 0 ms))&&okM ms need f true k (L ||| (1 <<< i))
 | f+1,hd,.alt i k r,L=>(!hd||(isRdy ms L i&&rdyIn L (i::altsO r) 0 ms))&&(okM ms need f true k (L ||| (1 <<< i))&&okM ms need (f+1) false r L)
 | 0,_,_,_=>false
def dokL(N:Nat):List Nat→Bool
 | []=>true
 | d::l=>Nat.blt d N&&dokL N l
inductive Hint where
 | none
 | seq (a b:Hint)
 | cut (S:List Nat) (a b:Hint)
 | cond (a b:Hint)
 | block (a:Hint)
 | loop (S:List Nat) (a:Hint)
 | scope (a:Hint)
 | reg (ms:List (Nat×Nat×Nat)) (need:List Nat) (o:Ord)
 | regJ (ms:List (Nat×Nat×Nat)) (S:List Nat)
def lReg(ops:Array Oper)(draw:Bool)(h:Hint):Bool:=
 match draw,h with
 | true,.reg ms need o=>Region.noSelect ops&&(msGo ops ops.toList ms&&(pairsAll 0 ms&&okM ms need ops.size true o 0))
 | true,.regJ ms S=>Region.noSelect ops&&(msGo ops ops.toList ms&&(dstsL ops.toList).all fun d=>memb S d)
 | true,_=>false
 | false,_=>true
def lSeq(x y:Hint→Bool)(h:Hint):Bool:=
 match h with
 | .cut _ a b=>x a&&y b
 | .seq a b=>x a&&y b
 | _=>false
def lCond(x y:Hint→Bool)(h:Hint):Bool:=
 match h with
 | .cond a b=>x a&&y b
 | _=>false
def lBlock(x:Hint→Bool)(h:Hint):Bool:=
 match h with
 | .block a=>x a
 | _=>false
def lLoop(x:Hint→Bool)(h:Hint):Bool:=
 match h with
 | .loop _ a=>x a
 | _=>false
def lScope(x:Hint→Bool)(h:Hint):Bool:=
 match h with
 | .scope a=>x a
 | _=>false
noncomputable def lexOk(c:Code):Hint→Bool:=
 Code.rec (motive:=fun _=>Hint→Bool) (fun _=>true) (fun _ ops draw=>lReg ops draw) (fun _ _ x y=>lSeq x y) (fun _ _ _ x y=>lCond x y) (fun _ _ x=>lBlock x) (fun _ x=>lLoop x) (fun _ _ _ _ _ _ _=>true) (fun _ _=>true) (fun _ x=>lScope x) (fun _ _=>true) (fun _ _=>true) (fun _=>true) (fun _ _=>true) c
theorem b7g(x y:Code)(h:Hint):lexOk (.seq x y) h=lSeq (lexOk x) (lexOk y) h:=rfl
theorem c1c(o:Operand)(x y:Code)(h:Hint):lexOk (.cond o x y) h=lCond (lexOk x) (lexOk y) h:=rfl
theorem b3r(i:Nat)(ops:Array Oper)(d:Bool)(h:Hint):lexOk (.region i ops d) h=lReg ops d h:=rfl
def nth:List Value→Nat→Value
 | [],_=>undef
 | v::_,0=>v
 | _::l,n+1=>nth l n
def pickS:List Nat→List Value→Nat→Option Value
 | [],_,_=>none
 | s::S,l,i=>bif Nat.beq i s then some (nth l 0) else pickS S l.tail i
def fill(σ:Fr)(D:List Nat)(S:List Nat)(l:List Value)(τ:Fr):Fr:=fun i=>
 match pickS S l i with
 | some v=>v
 | none=>bif memb D i then τ i else σ i
def xcut(K:List Value→World→Prop)(body:(List Value→World→Prop)→Prop):Prop:=body K
def fill'(σ:Fr)(D:List Nat)(τ:Fr):Fr:=fun i=>bif memb D i then τ i else σ i
abbrev thenX(K:Fr→World→Prop)(Q:Exit→Fr→World→Prop):Exit→Fr→World→Prop
 | .normal,σ,w=>K σ w
 | e,σ,w=>Q e σ w
abbrev inBlockX(id:Nat)(Q:Exit→Fr→World→Prop):Exit→Fr→World→Prop
 | .exit id',σ,w=>bif Nat.beq id' id then Q .normal σ w else Q (.exit id') σ w
 | e,σ,w=>Q e σ w
abbrev noGotoX(Q:Exit→Fr→World→Prop):Exit→Fr→World→Prop
 | .goto _,_,_=>False
 | e,σ,w=>Q e σ w
def xcond(v:Value)(A B:Prop):Prop:=
 match v with
 | .bool true=>A
 | .bool false=>B
 | _=>False
def xloop(S:List Nat)(init:List Value)(w:World)(body:Fr→World→(List Value→World→Prop)→Prop):Prop:=
 ∃(I:List Value→World→Prop)(μ:List Value→World→Nat),I init w∧
  ∀(τ:Fr)(w':World),I (S.map τ) w'→body τ w' fun l w''=>I l w''∧μ l w'' < μ (S.map τ) w'
def stepsJ(P:Program)(E:Pan)(ops:List Oper)(S:List Nat)(σ:Fr)(J:Nat→List Value→World→Prop):List Oper→List (Nat×Nat×Nat)→Nat→Prop
 | o::r,p::ps,i=>(∀(L:Nat)(τ:Fr)(w:World),J L (S.map τ) w→L.testBit i=false→rdyB p.1 L=true→opK P E (gopS ops (fill' σ S τ) o) w fun v w'=>J (L ||| (1 <<< i)) (S.map (up (fill' σ S τ) o.dst v)) w')∧stepsJ P E ops S σ J r ps (i+1)
 | _,_,_=>True
def regJ(P:Program)(E:Pan)(ops:List Oper)(ms:List (Nat×Nat×Nat))(S:List Nat)(σ:Fr)(w:World)(K:Fr→World→Prop):Prop:=
 ∃J:Nat→List Value→World→Prop,(∀τ:Fr,J 0 (S.map τ) w)∧stepsJ P E ops S σ J ops ms 0∧∀(L:Nat)(τ:Fr)(w:World),J L (S.map τ) w→rdyIn L [] 0 ms=true→K (fill' σ S τ) w
abbrev WT:=Hint→Fr→World→(Exit→Fr→World→Prop)→Prop
abbrev wReg(P:Program)(E:Pan)(ops:Array Oper)(draw:Bool):WT:=fun h σ w Q=>
 match draw with
 | false=>opsX P E ops.toList ops.toList σ w fun σ' w'=>Q .normal σ' w'
 | true=>
  match h with
  | .reg _ need o=>dX w fun w'=>regX P E ops.toList need [] o σ w' fun σ' w''=>Q .normal σ' w''
  | .regJ ms S=>dX w fun w'=>regJ P E ops.toList ms S σ w' fun σ' w''=>Q .normal σ' w''
  | _=>False
abbrev wSeq(X Y:WT)(D:List Nat):WT:=fun h σ w Q=>
 match h with
 | .cut S hx hy=>xcut (fun l w1=>∀τ:Fr,Y hy (fill σ D S l τ) w1 Q) fun J=>X hx σ w (thenX (fun σ1 w1=>J (S.map σ1) w1) Q)
 | .seq hx hy=>X hx σ w (thenX (fun σ1 w1=>Y hy σ1 w1 Q) Q)
 | _=>False
abbrev wCond(c:Operand)(X Y:WT):WT:=fun h σ w Q=>
 match h with
 | .cond hx hy=>xcond (ev σ c) (X hx σ w Q) (Y hy σ w Q)
 | _=>False
abbrev wBlock(id:Nat)(X:WT):WT:=fun h σ w Q=>
 match h with
 | .block hc=>X hc σ w (inBlockX id Q)
 | _=>False
abbrev wLoop(X:WT)(D:List Nat):WT:=fun h σ w Q=>
 match h with
 | .loop S hc=>xloop S (S.map σ) w fun τ w' next=>X hc (fill' σ D τ) w' (thenX (fun σ' w''=>next (S.map σ') w'') Q)
 | _=>False
abbrev wScope(X:WT):WT:=fun h σ w Q=>
 match h with
 | .scope hc=>X hc σ w (noGotoX Q)
 | _=>False
noncomputable def WPx(P:Program)(E:Pan)(c:Code):WT:=
 Code.rec (motive:=fun _=>WT) (fun _ σ w Q=>Q .normal σ w) (fun _ ops draw=>wReg P E ops draw) (fun x _ X Y=>wSeq X Y (dsts x)) (fun c _ _ X Y=>wCond c X Y) (fun id _ X=>wBlock id X) (fun b X=>wLoop X (dsts b))
  (fun _ _ _ _ _ _ _ _ _ _=>False) (fun id _ σ w Q=>Q (.exit id) σ w) (fun _ X=>wScope X) (fun _ _ σ w Q=>Q .normal σ w) (fun _ _ _ _ _=>False) (fun _ σ w Q=>Q .ret σ w) (fun _ _ _ _ _=>False) c
def Rep(N:Nat)(a:Act)(σ:Fr):Prop:=a.defers=[]∧a.tmps.size=N∧∀i,a.tmps.getD i undef = σ i
section
variable {P:Program}{N:Nat}
theorem Rep.eval{a:Act}{σ:Fr}(h:Rep N a σ):a.eval=ev σ:=by
 funext x
 cases x with
 | tmp t=>exact h.2.2 t
 | _=>rfl
theorem Rep.put{a:Act}{σ:Fr}(h:Rep N a σ){d:Option Nat}(hd:∀k,d=some k→k < N)(v:Value):Rep N (a.put d v) (up σ d v):=by
 cases d with
 | none=>exact h
 | some k=>
  have hk:=hd k rfl
  refine ⟨h.1,by simp [Act.put,h.2.1],fun i=>?_⟩
  simp only [Act.put,up]
  have hi:=h.2.2 i
  simp only [Array.getD_eq_getD_getElem?,Array.getElem?_setIfInBounds] at hi ⊢
  by_cases e:k=i
  ·subst e
   have:k < a.tmps.size:=by rw [h.2.1];exact hk
   simp [this]
  ·have e':Nat.beq i k=false:=by
    rw [Bool.eq_false_iff];intro hb;exact e (Nat.eq_of_beq_eq_true hb).symm
   simp only [e,if_false,e',cond_false]
   exact hi
theorem c4E(σ:Fr)(d:Option Nat)(v:Value)(i:Nat)(h:d≠some i):up σ d v i = σ i:=by
 cases d with
 | none=>rfl
 | some k=>
  have e':Nat.beq i k=false:=by
   rw [Bool.eq_false_iff];intro hb;exact h (by rw [Nat.eq_of_beq_eq_true hb])
  simp [up,e']
theorem c9c{ops:List Oper}{a:Act}{σ:Fr}(h:Rep N a σ)(j:Nat):yielded ops.toArray a.tmps j=yldX ops σ j:=by
 unfold yielded yldX
 simp only [List.getElem?_toArray]
 cases ho:ops[j]? with
 | none=>rfl
 | some o=>
  cases hd:o.dst with
  | none=>simp [hd]
  | some d=>
   have hi:=h.2.2 d
   simp only [Array.getD_eq_getD_getElem?] at hi
   simp only [Option.bind_some,hd]
   rw [←hi]
   cases a.tmps[d]? with
   | none=>rfl
   | some v=>cases v<;>rfl
theorem b3s{ops:List Oper}{a:Act}{σ:Fr}(h:Rep N a σ)(o:Oper):
  Region.wanted o (yielded ops.toArray a.tmps)=(match o.guard with | none=>true | some (j,want)=>yldX ops σ j == some want):=by
 unfold Region.wanted
 cases o.guard with
 | none=>rfl
 | some g=>obtain ⟨j,want⟩:=g;simp only [c9c h]
theorem b7Z{E:Pan}{s:Sem Next}{o:Oper}{a:Act}{w:World}{K:Value→World→Prop}{next:Act→World→Prop}{Q:Exit→Act→World→Prop}
  (hs:execOp a.eval o=s) (h:opK P E s w K) (hn:∀v w',K v w'→next (a.put o.dst v) w') (hE:∀c w',E c w'→Q (.panic c) a w'):o.wp P a w next Q:=by
 unfold Oper.wp
 rw [hs]
 unfold opK at h
 generalize s.run P w=r at h
 cases r with
 | halt x w'=>
  cases x<;>first | exact h.elim | exact hE _ _ h
 | ok n w'=>
  cases n<;>simp only at h<;>simp only [Oper.upon]
  case value v=>exact hn _ _ h
  case skip=>exact hn _ _ h
  case enter f args=>
   refine Calls.mono h fun e w'' hk=>?_
   cases e with
   | returned v=>exact hn _ _ hk
   | panicked c=>exact hE _ _ hk
   | outgrown=>exact hk.elim
theorem c0e{ops:List Oper}{σ:Fr}{o:Oper}{v:Value}(h:mvX ops σ o=some v):gopS ops σ o=pure (.value v):=by
 unfold mvX at h
 unfold gopS
 split at h
 ·rename_i x hx
  cases hg:o.guard with
  | none=>
   simp only [hg,Option.some.injEq] at h
   subst h
   simp only [a7Y,execOp,hx]
  | some g=>
   obtain ⟨j,want⟩:=g
   simp only [hg,Option.some.injEq] at h
   subst h
   simp only [a7Y,execOp,hx,gsem,gval]
   cases (yldX ops σ j == some want)<;>rfl
 ·rename_i x hx
  cases hg:o.guard with
  | none=>
   simp only [hg,Option.some.injEq] at h
   subst h
   simp only [a7Y,execOp,hx]
  | some g=>
   obtain ⟨j,want⟩:=g
   simp only [hg,Option.some.injEq] at h
   subst h
   simp only [a7Y,execOp,hx,gsem,gval]
   cases (yldX ops σ j == some want)<;>rfl
 ·cases h
theorem c2s{E:Pan}{ops:List Oper}{o:Oper}{r:List Oper}{σ:Fr}{w:World}{K:Fr→World→Prop}(h:opsX P E ops (o::r) σ w K):
  opK P E (gopS ops σ o) w fun v w'=>opsX P E ops r (up σ o.dst v) w' K:=by
 unfold opsX at h
 split at h
 ·rename_i v hv
  rw [c0e hv]
  exact h
 ·exact h
def dokO(N:Nat)(l:List Oper):Prop:=∀o∈l,∀k,o.dst=some k→k < N
theorem c7e{l:List Oper}(h:dokL N (dstsL l)=true):dokO N l:=by
 induction l with
 | nil=>intro o ho;cases ho
 | cons x l ih=>
  cases hd:x.dst with
  | none=>
   simp only [dstsL,hd] at h
   intro o ho k hk
   rcases List.mem_cons.1 ho with rfl | ho
   ·rw [hd] at hk;cases hk
   ·exact ih h o ho k hk
  | some d=>
   simp only [dstsL,hd,dokL,Bool.and_eq_true] at h
   intro o ho k hk
   rcases List.mem_cons.1 ho with rfl | ho
   ·rw [hd] at hk;cases hk
    exact Nat.le_of_ble_eq_true h.1
   ·exact ih h.2 o ho k hk
def Kept(D:List Nat)(σ σ':Fr):Prop:=∀i,memb D i=false→σ' i = σ i
theorem b4J(a b:List Nat)(i:Nat):memb (a++b) i=(memb a i||memb b i):=by
 induction a with
 | nil=>rfl
 | cons d a ih=>
  simp only [List.cons_append,memb]
  cases Nat.beq i d<;>simp [ih]
theorem Kept.refl(D:List Nat)(σ:Fr):Kept D σ σ:=fun _ _=>rfl
theorem Kept.trans{D:List Nat}{a b c:Fr}(h:Kept D a b)(k:Kept D b c):Kept D a c:=fun i hi=>(k i hi).trans (h i hi)
theorem Kept.left{D E:List Nat}{a b:Fr}(h:Kept D a b):Kept (D++E) a b:=fun i hi=>h i (by rw [b4J] at hi;exact (Bool.or_eq_false_iff.1 hi).1)
theorem Kept.right{D E:List Nat}{a b:Fr}(h:Kept E a b):Kept (D++E) a b:=fun i hi=>h i (by rw [b4J] at hi;exact (Bool.or_eq_false_iff.1 hi).2)
theorem Kept.up{D:List Nat}{a b:Fr}(h:Kept D a b){d:Option Nat}(hd:∀k,d=some k→memb D k=true)(v:Value):Kept D a (up b d v):=fun i hi=>
 (c4E b d v i (fun e=>by rw [hd i e] at hi;cases hi)).trans (h i hi)
theorem b5A{o:Oper}{l:List Oper}(ho:o∈l){k:Nat}(hk:o.dst=some k):memb (dstsL l) k=true:=by
 induction l with
 | nil=>cases ho
 | cons x l ih=>
  rcases List.mem_cons.1 ho with rfl | ho
  ·simp only [dstsL,hk,memb,Nat.beq_refl,cond_true]
  ·cases hd:x.dst with
   | none=>simp only [dstsL,hd];exact ih ho
   | some d=>
    simp only [dstsL,hd,memb]
    cases Nat.beq k d
    ·exact ih ho
    ·rfl
theorem c1d{E:Pan}{ops:List Oper}{Q:Exit→Act→World→Prop}{K:Fr→World→Prop}{D:List Nat}{σ₀:Fr}(hE:∀c a w,a.defers=[]→E c w→Q (.panic c) a w):∀(l:List Oper),(∀o∈l,o∈ops)→dokO N ops→(∀o∈ops,∀k,o.dst=some k→memb D k=true)→
  ∀(σ:Fr)(a:Act)(w:World),Rep N a σ→Kept D σ₀ σ→opsX P E ops l σ w K→
  (∀σ' a' w',Rep N a' σ'→Kept D σ₀ σ'→K σ' w'→Q .normal a' w')→wpList P ops.toArray Q l a w:=by
 intro l
 induction l with
 | nil=>intro _ _ _ σ a w hr hk h hq;exact hq _ _ _ hr hk h
 | cons o r ih=>
  intro hsub hdok hD σ a w hr hk h hq
  have hstep:=c2s h
  have hput:∀v,Rep N (a.put o.dst v) (up σ o.dst v):=fun v=>hr.put (fun k hk=>hdok o (hsub o (List.mem_cons_self ..)) k hk) v
  have hkeep:∀v,Kept D σ₀ (up σ o.dst v):=fun v=>hk.up (fun k hk=>hD o (hsub o (List.mem_cons_self ..)) k hk) v
  have hnext:∀v w',opsX P E ops r (up σ o.dst v) w' K→wpList P ops.toArray Q r (a.put o.dst v) w':=fun v w' hh=>
   ih (fun o' ho'=>hsub o' (List.mem_cons_of_mem _ ho')) hdok hD _ _ _ (hput v) (hkeep v) hh hq
  refine wpList_step fun K' hK'=>?_
  rw [b3s hr]
  unfold gopS at hstep
  simp only [a7Y] at hstep
  cases hg:o.guard with
  | none=>
   simp only [hg] at hstep
   simp only [if_true]
   exact b7Z (by rw [hr.eval]) hstep (fun v w' hh=>hK' _ _ (hnext v w' hh)) fun c w' he=>hE _ _ _ hr.1 he
  | some g=>
   obtain ⟨j,want⟩:=g
   simp only [hg,gsem] at hstep
   by_cases hw:(yldX ops σ j == some want)=true
   ·simp only [hw,cond_true] at hstep
    simp only [hw,if_true]
    exact b7Z (by rw [hr.eval]) hstep (fun v w' hh=>hK' _ _ (hnext v w' hh)) fun c w' he=>hE _ _ _ hr.1 he
   ·have hw':(yldX ops σ j == some want)=false:=by simpa using hw
    simp only [hw',cond_false] at hstep
    simp only [hw',Bool.false_eq_true,if_false]
    exact hK' _ _ (hnext undef w hstep)
def opA(P:Program)(E:Pan)(o:Oper)(a:Act)(w:World)(K:Act→World→Prop):Prop:=
 match (execOp a.eval o).run P w with
 | .ok (.value v) w'=>K (a.put o.dst v) w'
 | .ok .skip w'=>K (a.put o.dst undef) w'
 | .ok (.enter f args) w'=>Cv P f args w' (fun v w''=>K (a.put o.dst v) w'') E
 | .halt (.panic v) w'=>E [{ v,recovered:=false }] w'
 | _=>False
def wOp(P:Program)(E:Pan)(ops:Array Oper)(i:Nat)(K:Act→World→Prop)(a:Act)(w:World):Prop:=
 match ops[i]? with
 | none=>K a w
 | some o=>if Region.wanted o (yielded ops a.tmps) then opA P E o a w K else K (a.put o.dst undef) w
theorem c4F{E:Pan}{o:Oper}{a:Act}{w:World}{K K':Act→World→Prop}(hk:∀a w,K a w→K' a w)(h:opA P E o a w K):opA P E o a w K':=by
 unfold opA at *
 generalize (execOp a.eval o).run P w=r at *
 cases r with
 | ok n w'=>
  cases n<;>simp only at h ⊢
  case value v=>exact hk _ _ h
  case skip=>exact hk _ _ h
  case enter f args=>exact Cv.mono h (fun v w' h=>hk _ _ h) fun _ _ h=>h
 | halt x w'=>cases x<;>simp only at h ⊢ <;> exact h
theorem b0a{E:Pan}{ops:Array Oper}{i:Nat}{a:Act}{w:World}{K K':Act→World→Prop}(hk:∀a w,K a w→K' a w)(h:wOp P E ops i K a w):wOp P E ops i K' a w:=by
 unfold wOp at *
 split
 ·rename_i ho;simp only [ho] at h;exact hk _ _ h
 ·rename_i o ho
  simp only [ho] at h
  split
  ·rename_i hw;simp only [hw,if_true] at h;exact c4F hk h
  ·rename_i hw;simp only [hw] at h;exact hk _ _ h
theorem put_defers(a:Act)(d:Option Tmp)(v:Value):(a.put d v).defers=a.defers:=by cases d<;>rfl
theorem b9K{E:Pan}{ops:Array Oper}{Q:Exit→Act→World→Prop}{i:Nat}{a:Act}{w:World}{K:Act→World→Prop}(hd:a.defers=[])(hE:∀c a w,a.defers=[]→E c w→Q (.panic c) a w)
  (h:wOp P E ops i K a w):wpOp P ops Q i (fun a' w'=>a'.defers=[]∧K a' w') a w:=by
 unfold wOp at h
 unfold wpOp
 split
 ·rename_i ho;simp only [ho] at h;exact ⟨hd,h⟩
 ·rename_i o ho
  simp only [ho] at h
  split
  ·rename_i hw
   simp only [hw,if_true] at h
   refine .inl ?_
   unfold opA at h
   unfold Oper.wp
   generalize (execOp a.eval o).run P w=r at *
   cases r with
   | ok n w'=>
    cases n<;>simp only at h<;>simp only [Oper.upon]
    case value v=>exact ⟨by rw [put_defers];exact hd,h⟩
    case skip=>exact ⟨by rw [put_defers];exact hd,h⟩
    case enter f args=>
     refine Calls.mono h fun e w'' hk=>?_
     cases e with
     | returned v=>exact ⟨by rw [put_defers];exact hd,hk⟩
     | panicked c=>exact hE _ _ _ hd hk
     | outgrown=>exact hk.elim
   | halt x w'=>cases x<;>simp only at h<;>simp only [Oper.upon]<;>exact hE _ _ _ hd h
  ·rename_i hw;simp only [hw] at h;exact ⟨by rw [put_defers];exact hd,h⟩
def wpE(P:Program)(E:Pan)(ops:Array Oper)(need:List Nat)(pd:List (Nat×Option Nat))(Q:Act→World→Prop):Nat→Array Bool→Act→World→Prop
 | 0,L,a,w=>Region.ready .any ops L=[]∧Q a w
 | f+1,L,a,w=>(Region.ready .any ops L=[]→Q a w)∧
  ∀i∈Region.ready .any ops L,wOp P E ops i (fun a' w'=>(∀p∈pd,(nthN need i).testBit p.1=true→sameB p.2 w w')∧wpE P E ops need pd Q f (L.setIfInBounds i true) a' w') a w
theorem b0b{E:Pan}{ops:Array Oper}{need:List Nat}{pd:List (Nat×Option Nat)}{Q:Act→World→Prop}{Q':Exit→Act→World→Prop}(hE:∀c a w,a.defers=[]→E c w→Q' (.panic c) a w)(hQ:∀a w,a.defers=[]→Q a w→Q' .normal a w):
  ∀(f:Nat)(L:Array Bool)(a:Act)(w:World),a.defers=[]→wpE P E ops need pd Q f L a w→wpAny P .any ops Q' f L a w
 | 0,_,_,_,hd,h=>⟨h.1,hQ _ _ hd h.2⟩
 | f+1,_,_,_,hd,h=>⟨fun h0=>hQ _ _ hd (h.1 h0),fun i hi=>wpOp_mono (fun a' w' h'=>b0b hE hQ f _ a' w' h'.1 h'.2.2) (b9K hd hE (h.2 i hi))⟩
def YC(P:Program)(ops:Array Oper)(C:World→Prop)(o:Oper)(v:Value)(a:Act):Prop:=
 (Region.wanted o (yielded ops a.tmps)=true∧∀w,C w→(execOp a.eval o).run P w=.ok (.value v) w)∨(Region.wanted o (yielded ops a.tmps)=false∧v=undef)
theorem YC.of_same{ops:Array Oper}{C:World→Prop}{o:Oper}{v:Value}{a a':Act}(hy:YC P ops C o v a)(he:execOp a'.eval o=execOp a.eval o)
  (hw:Region.wanted o (yielded ops a'.tmps)=Region.wanted o (yielded ops a.tmps)):YC P ops C o v a':=by
 unfold YC at *
 rw [he,hw]
 exact hy
theorem YC.wOp{E:Pan}{ops:Array Oper}{C:World→Prop}{i:Nat}{o:Oper}{v:Value}{a:Act}(hi:ops[i]? = some o)(hy:YC P ops C o v a){K:Act→World→Prop}{w:World}(hC:C w)(h:K (a.put o.dst v) w):wOp P E ops i K a w:=by
 unfold Go.Proofs.YthaaobpfbgcfiaaGreatDoor.wOp
 simp only [hi]
 rcases hy with ⟨hw,hv⟩ | ⟨hw,rfl⟩
 ·simp only [hw,if_true,opA,hv w hC];exact h
 ·simp only [hw,Bool.false_eq_true,if_false];exact h
theorem c7f{E:Pan}{ops:Array Oper}{C:World→Prop}{j:Nat}{oi oj:Oper}{v:Value}(hj:ops[j]? = some oj)(hap:oi.apart ops oj=true)
  (hsi:∀cs b,oi.op≠.select cs b) (hsj:∀cs b,oj.op≠.select cs b) {K:Act→World→Prop} {a:Act} {w:World}
  (hy:YC P ops C oi v a) (h:wOp P E ops j K (a.put oi.dst v) w):
  wOp P E ops j (fun a' w'=>YC P ops C oi v a'∧K (a'.put oi.dst v) w') a w:=by
 obtain ⟨h1,h2,h3⟩:=Oper.apart_spec hap
 have keep:∀u,YC P ops C oi v (a.put oj.dst u):=fun u=>
  hy.of_same (execOp_put oi hsi a oj.dst u h3) (wanted_put oi a oj.dst u h3)
 unfold wOp at *
 simp only [hj] at *
 rw [wanted_put oj a oi.dst v h1] at h
 split
 ·rename_i hw
  simp only [hw,if_true] at h
  unfold opA at *
  rw [execOp_put oj hsj a oi.dst v h1] at h
  generalize (execOp a.eval oj).run P w=r at *
  cases r with
  | ok n w'=>
   cases n<;>simp only at h ⊢
   case value u=>exact ⟨keep u,by rw [←Act.put_comm a v u h2];exact h⟩
   case skip=>exact ⟨keep _,by rw [←Act.put_comm a v undef h2];exact h⟩
   case enter f args=>exact Cv.mono h (fun u w' h=>⟨keep u,by rw [←Act.put_comm a v u h2];exact h⟩) fun _ _ h=>h
  | halt x w'=>cases x<;>simp only at h ⊢ <;> exact h
 ·rename_i hw
  simp only [hw] at h
  exact ⟨keep _,by rw [←Act.put_comm a v undef h2];exact h⟩
inductive Waits (ops:Array Oper) (i:Nat):Nat→Prop where
 | one {k:Nat} {o:Oper} (ho:ops[k]? = some o) {e} (he:e∈o.after) (hb:Region.binds .any e=true) (hi:e.on=i):Waits ops i k
 | more {k:Nat} {o:Oper} (ho:ops[k]? = some o) {e} (he:e∈o.after) (hb:Region.binds .any e=true) (hi:Waits ops i e.on):Waits ops i k
def Closed(ops:Array Oper)(L:Array Bool):Prop:=∀j oj,ops[j]? = some oj→L.getD j false=true→∀e∈oj.after,Region.binds .any e=true→L.getD e.on false=true
theorem Closed.waits{ops:Array Oper}{L:Array Bool}(hc:Closed ops L){i k:Nat}(h:Waits ops i k)(hk:L.getD k false=true):L.getD i false=true:=by
 induction h with
 | one ho he hb hi=>subst hi;exact hc _ _ ho hk _ he hb
 | more ho he hb _ ih=>exact ih (hc _ _ ho hk _ he hb)
theorem c1e{L:Array Bool}{i:Nat}(h:L.getD i false=true)(k:L.getD i true=false):False:=by
 rcases Nat.lt_or_ge i L.size with h' | h'
 ·simp [h'] at h k;rw [h] at k;cases k
 ·simp [Array.getElem?_eq_none h'] at h
theorem b9L{ops:Array Oper}{L:Array Bool}(hc:Closed ops L){i k:Nat}(h:Waits ops i k)(hr:k∈Region.ready .any ops L):L.getD i false=true:=by
 obtain ⟨_,o,ho,hall⟩:=mem_ready.1 hr
 cases h with
 | one ho' he hb hi=>
  obtain rfl:=Option.some.inj (ho.symm.trans ho')
  subst hi
  exact hall _ he hb
 | more ho' he hb hi=>
  obtain rfl:=Option.some.inj (ho.symm.trans ho')
  exact hc.waits hi (hall _ he hb)
theorem Closed.set{ops:Array Oper}{L:Array Bool}(hc:Closed ops L){i:Nat}(hr:i∈Region.ready .any ops L):Closed ops (L.setIfInBounds i true):=by
 obtain ⟨_,oi,hoi,hall⟩:=mem_ready.1 hr
 intro j oj hj hl e he hb
 by_cases hij:i=j
 ·subst hij
  obtain rfl:=Option.some.inj (hoi.symm.trans hj)
  exact getD_set_true (hall e he hb)
 ·rw [getD_set_ne false hij] at hl
  exact getD_set_true (hc j oj hj hl e he hb)
def FreeP(ops:Array Oper)(L:Array Bool)(i:Nat):Prop:=∀oi j oj,ops[i]? = some oi→ops[j]? = some oj→j≠i→L.getD j true=false→(∀e∈oj.after,Region.binds .any e=true→e.on≠i)→oi.apart ops oj=true
def NeedP(ops:Array Oper)(need:List Nat)(L:Array Bool)(i:Nat):Prop:=∀j,j < ops.size→j≠i→L.getD j true=false→(nthN need j).testBit i=true∨Waits ops i j
def OkP(ops:Array Oper)(need:List Nat):Nat→Bool→Ord→Array Bool→Prop
 | _,_,.done,L=>Region.ready .any ops L=[]
 | f+1,_,.early i k,L=>i∈Region.ready .any ops L∧FreeP ops L i∧OkP ops need f true k (L.setIfInBounds i true)
 | f+1,_,.load i k,L=>i∈Region.ready .any ops L∧FreeP ops L i∧NeedP ops need L i∧OkP ops need f true k (L.setIfInBounds i true)
 | f+1,hd,.step i k,L=>(hd=true→i∈Region.ready .any ops L∧∀j∈Region.ready .any ops L,j∈altsO (.step i k))∧(i∈Region.ready .any ops L→OkP ops need f true k (L.setIfInBounds i true))
 | f+1,hd,.alt i k r,L=>(hd=true→i∈Region.ready .any ops L∧∀j∈Region.ready .any ops L,j∈altsO (.alt i k r))∧(i∈Region.ready .any ops L→OkP ops need f true k (L.setIfInBounds i true))∧OkP ops need (f+1) false r L
 | 0,_,_,_=>False
theorem a0I(k j:Nat):(1 <<< k).testBit j=decide (j=k):=by
 rw [Nat.one_shiftLeft,Nat.testBit_two_pow]
 exact decide_eq_decide.2 ⟨fun h=>h.symm,fun h=>h.symm⟩
theorem b0c(o:Oper)(j:Nat):(depM o).testBit j=true↔∃e∈o.after,Region.binds .any e=true∧e.on=j:=by
 unfold depM
 have h:∀l:List Edge,(l.foldr (fun e m=>bif Region.binds .any e then m ||| (1 <<< e.on) else m) 0).testBit j=true↔∃e∈l,Region.binds .any e=true∧e.on=j:=by
  intro l
  induction l with
  | nil=>simp
  | cons e l ih=>
   simp only [List.foldr_cons,List.mem_cons]
   cases hb:Region.binds .any e with
   | false=>
    simp only [cond_false,ih]
    constructor
    ·rintro ⟨e',h1,h2⟩;exact ⟨e',.inr h1,h2⟩
    ·rintro ⟨e',h1 | h1,h2,h3⟩
     ·subst h1;rw [hb] at h2;cases h2
     ·exact ⟨e',h1,h2,h3⟩
   | true=>
    simp only [cond_true,Nat.testBit_or,Bool.or_eq_true,ih,a0I,decide_eq_true_eq]
    constructor
    ·rintro (⟨e',h1,h2⟩ | h)
     ·exact ⟨e',.inr h1,h2⟩
     ·exact ⟨e,.inl rfl,hb,h.symm⟩
    ·rintro ⟨e',h1 | h1,h2,h3⟩
     ·subst h1;exact .inr h3.symm
     ·exact .inl ⟨e',h1,h2,h3⟩
 rw [h]
 simp
theorem c2t(l:List Nat)(t:Nat):(slotM l).testBit t=true↔t∈l:=by
 unfold slotM
 induction l with
 | nil=>simp
 | cons x l ih=>
  rw [List.foldr_cons,Nat.testBit_or,Bool.or_eq_true,ih,a0I,decide_eq_true_eq,List.mem_cons]
  exact or_comm
theorem c4G(o:Oper)(t:Nat):(dstM o).testBit t=true↔o.dst=some t:=by
 unfold dstM
 cases h:o.dst with
 | none=>simp
 | some d=>
  rw [a0I,decide_eq_true_eq,Option.some.injEq]
  exact eq_comm
theorem c6c{a b:Nat}(h:Nat.beq (a &&& b) 0=true)(t:Nat):¬(a.testBit t=true∧b.testBit t=true):=by
 intro ⟨h1,h2⟩
 have h0:=Nat.eq_of_beq_eq_true h
 have:(a &&& b).testBit t=true:=by rw [Nat.testBit_and,h1,h2];rfl
 rw [h0] at this
 simp at this
structure MsOk (ops:Array Oper) (ms:List (Nat×Nat×Nat)):Prop where
 len:ms.length=ops.size
 at_:∀i o,ops[i]? = some o→nthM ms i=some (depM o,dstM o,slotM (o.looksAt ops))
theorem b6B{ops:Array Oper}:∀(os:List Oper)(ms:List (Nat×Nat×Nat)),msGo ops os ms=true→ms.length=os.length∧∀i o,os[i]? = some o→nthM ms i=some (depM o,dstM o,slotM (o.looksAt ops))
 | [],[],_=>⟨rfl,fun i o h=>by simp at h⟩
 | o::os,(d,t,l)::r,h=>by
  simp only [msGo,Bool.and_eq_true] at h
  obtain ⟨h1,h2⟩:=b6B os r h.2.2.2
  refine ⟨by simp [h1],fun i o' ho=>?_⟩
  cases i with
  | zero=>
   simp only [List.getElem?_cons_zero,Option.some.injEq] at ho
   subst ho
   rw [nthM,Nat.eq_of_beq_eq_true h.1,Nat.eq_of_beq_eq_true h.2.1,Nat.eq_of_beq_eq_true h.2.2.1]
  | succ i=>exact h2 i o' (by simpa using ho)
 | [],_::_,h=>by cases h
 | _::_,[],h=>by simp [msGo] at h
theorem b5B{i:Nat}{p:Nat×Nat×Nat}:∀(r:List (Nat×Nat×Nat))(j0 j:Nat)(q:Nat×Nat×Nat),pairsGo i p j0 r=true→nthM r j=some q→pairOk i (j0+j) p q=true
 | [],_,_,_,_,h=>by cases h
 | x::r,j0,0,q,h,hq=>by
  simp only [pairsGo,Bool.and_eq_true] at h
  simp only [nthM,Option.some.injEq] at hq
  subst hq
  exact h.1
 | x::r,j0,j+1,q,h,hq=>by
  simp only [pairsGo,Bool.and_eq_true] at h
  have:=b5B r (j0+1) j q h.2 hq
  rwa [show j0+1+j=j0+(j+1) by omega] at this
theorem b1m:∀(l:List (Nat×Nat×Nat))(i0 i j:Nat)(p q:Nat×Nat×Nat),pairsAll i0 l=true→nthM l i=some p→nthM l j=some q→i < j→pairOk (i0+i) (i0+j) p q=true
 | [],_,_,_,_,_,_,h,_,_=>by cases h
 | x::l,i0,0,j+1,p,q,h,hp,hq,_=>by
  simp only [pairsAll,Bool.and_eq_true] at h
  simp only [nthM,Option.some.injEq] at hp
  subst hp
  have:=b5B l (i0+1) j q h.1 hq
  rwa [show i0+1+j=i0+(j+1) by omega] at this
 | x::l,i0,i+1,j+1,p,q,h,hp,hq,hij=>by
  simp only [pairsAll,Bool.and_eq_true] at h
  have:=b1m l (i0+1) i j p q h.2 hp hq (by omega)
  rwa [show i0+1+i=i0+(i+1) by omega,show i0+1+j=i0+(j+1) by omega] at this
 | _::_,_,_,0,_,_,_,_,_,h=>by omega
theorem b8a{ops:Array Oper}{x y:Oper}(h1:∀d,x.dst=some d→d ∉ y.looksAt ops)(h2:∀d,x.dst=some d→y.dst≠some d)(h3:∀d,y.dst=some d→d ∉ x.looksAt ops):x.apart ops y=true:=by
 unfold Oper.apart
 cases hx:x.dst with
 | none=>
  cases hy:y.dst with
  | none=>rfl
  | some e=>simp [h3 e hy]
 | some d=>
  have a1:=h1 d hx
  have a2:=h2 d hx
  cases hy:y.dst with
  | none=>simp [a1]
  | some e=>
   rw [hy] at a2
   simp only [Bool.and_eq_true,Bool.not_eq_true',bne_iff_ne,ne_eq]
   exact ⟨⟨by simpa using a1,by simpa using a2⟩,by simpa using h3 e hy⟩
theorem b5C{ops:Array Oper}{i j:Nat}{oi oj:Oper}(h:pairOk i j (depM oi,dstM oi,slotM (oi.looksAt ops)) (depM oj,dstM oj,slotM (oj.looksAt ops))=true):
  (oi.apart ops oj=true∧oj.apart ops oi=true)∨(∃e∈oj.after,Region.binds .any e=true∧e.on=i)∨(∃e∈oi.after,Region.binds .any e=true∧e.on=j):=by
 simp only [pairOk,Bool.or_eq_true,Bool.and_eq_true] at h
 rcases h with ⟨h1,h2⟩ | h | h
 ·have a:=c6c h1
  have b:=c6c h2
  simp only [Nat.testBit_or,Bool.or_eq_true,c4G,c2t] at a b
  exact .inl ⟨b8a (fun d hd hm=>a d ⟨hd,.inl hm⟩) (fun d hd he=>a d ⟨hd,.inr he⟩) (fun d hd hm=>b d ⟨hd,hm⟩),
   b8a (fun d hd hm=>b d ⟨hd,hm⟩) (fun d hd he=>a d ⟨he,.inr hd⟩) (fun d hd hm=>a d ⟨hd,.inl hm⟩)⟩
 ·exact .inr (.inl ((b0c _ _).1 h))
 ·exact .inr (.inr ((b0c _ _).1 h))
structure LM (ops:Array Oper) (L:Array Bool) (m:Nat):Prop where
 size:L.size=ops.size
 bit:∀k,L.getD k false=m.testBit k
theorem LM.un{ops:Array Oper}{L:Array Bool}{m:Nat}(h:LM ops L m){k:Nat}(hk:k < ops.size):L.getD k true=m.testBit k:=by
 rw [←h.bit k]
 have:k < L.size:=by rw [h.size];exact hk
 simp [this]
theorem b8b{d m:Nat}:rdyB d m=true↔∀t,d.testBit t=true→m.testBit t=true:=by
 unfold rdyB
 rw [Nat.beq_eq]
 constructor
 ·intro h t ht
  rw [←h,Nat.testBit_and,Bool.and_eq_true] at ht
  exact ht.2
 ·intro h
  refine Nat.eq_of_testBit_eq fun t=>?_
  rw [Nat.testBit_and]
  cases hd:d.testBit t with
  | false=>rfl
  | true=>rw [h t hd];rfl
theorem LM.ready{ops:Array Oper}{ms:List (Nat×Nat×Nat)}(hm:MsOk ops ms){L:Array Bool}{m:Nat}(h:LM ops L m){k:Nat}:
  k∈Region.ready .any ops L↔∃o,ops[k]? = some o∧m.testBit k=false∧rdyB (depM o) m=true:=by
 rw [mem_ready]
 constructor
 ·rintro ⟨h1,o,ho,h2⟩
  refine ⟨o,ho,by rw [←h.un (Array.getElem?_eq_some_iff.1 ho).1];exact h1,b8b.2 fun t ht=>?_⟩
  obtain ⟨e,he,hb,rfl⟩:=(b0c _ _).1 ht
  rw [←h.bit]
  exact h2 e he hb
 ·rintro ⟨o,ho,h1,h2⟩
  refine ⟨by rw [h.un (Array.getElem?_eq_some_iff.1 ho).1];exact h1,o,ho,fun e he hb=>?_⟩
  rw [h.bit]
  exact b8b.1 h2 _ ((b0c _ _).2 ⟨e,he,hb,rfl⟩)
theorem LM.isRdy{ops:Array Oper}{ms:List (Nat×Nat×Nat)}(hm:MsOk ops ms){L:Array Bool}{m:Nat}(h:LM ops L m){k:Nat}(hr:isRdy ms m k=true):k∈Region.ready .any ops L:=by
 unfold Go.Proofs.YthaaobpfbgcfiaaGreatDoor.isRdy at hr
 rw [h.ready hm]
 cases ho:ops[k]? with
 | none=>
  have hlen:∀(l:List (Nat×Nat×Nat))(n:Nat),l.length≤n→nthM l n=none:=by
   intro l
   induction l with
   | nil=>intro n _;rfl
   | cons x l ih=>
    intro n hn
    cases n with
    | zero=>simp at hn
    | succ n=>exact ih n (by simpa using hn)
  have:ms.length≤k:=by
   rw [hm.len]
   exact Array.getElem?_eq_none_iff.1 ho
  rw [hlen ms k this] at hr
  cases hr
 | some o=>
  rw [hm.at_ k o ho] at hr
  simp only [Bool.and_eq_true,Bool.not_eq_true'] at hr
  exact ⟨o,rfl,hr.1,hr.2⟩
theorem b8c{m:Nat}{alts:List Nat}:∀(l:List (Nat×Nat×Nat))(k0 k:Nat)(p:Nat×Nat×Nat),rdyIn m alts k0 l=true→nthM l k=some p→m.testBit (k0+k)=false→rdyB p.1 m=true→memb alts (k0+k)=true
 | [],_,_,_,_,h,_,_=>by cases h
 | x::l,k0,0,p,h,hp,h1,h2=>by
  simp only [rdyIn,Bool.and_eq_true,Bool.or_eq_true,Bool.not_eq_true'] at h
  simp only [nthM,Option.some.injEq] at hp
  subst hp
  rcases h.1 with h | h | h
  ·rw [Nat.add_zero] at h1;rw [h1] at h;cases h
  ·rw [h2] at h;cases h
  ·exact h
 | x::l,k0,k+1,p,h,hp,h1,h2=>by
  simp only [rdyIn,Bool.and_eq_true] at h
  have:=b8c l (k0+1) k p h.2 hp (by rwa [show k0+1+k=k0+(k+1) by omega]) h2
  rwa [show k0+1+k=k0+(k+1) by omega] at this
theorem b8d{l:List Nat}{k:Nat}(h:memb l k=true):k∈l:=by
 induction l with
 | nil=>cases h
 | cons x l ih=>
  simp only [memb] at h
  cases hx:Nat.beq k x with
  | true=>exact List.mem_cons.2 (.inl (Nat.eq_of_beq_eq_true hx))
  | false=>rw [hx] at h;exact List.mem_cons_of_mem _ (ih h)
theorem LM.rdyIn{ops:Array Oper}{ms:List (Nat×Nat×Nat)}(hm:MsOk ops ms){L:Array Bool}{m:Nat}(h:LM ops L m){alts:List Nat}(hr:rdyIn m alts 0 ms=true):∀k∈Region.ready .any ops L,k∈alts:=by
 intro k hk
 obtain ⟨o,ho,h1,h2⟩:=(h.ready hm).1 hk
 have:=b8c ms 0 k _ hr (hm.at_ k o ho) (by simpa using h1) h2
 exact b8d (by simpa using this)
theorem LM.set{ops:Array Oper}{L:Array Bool}{m:Nat}(h:LM ops L m){i:Nat}(hi:i < ops.size):LM ops (L.setIfInBounds i true) (m ||| (1 <<< i)):=by
 refine ⟨by simp [h.size],fun k=>?_⟩
 rw [Nat.testBit_or,a0I]
 by_cases e:i=k
 ·subst e
  have:i < L.size:=by rw [h.size];exact hi
  simp [this]
 ·rw [getD_set_ne false e,h.bit]
  have:decide (k=i)=false:=by simpa using fun h=>e h.symm
  rw [this,Bool.or_false]
theorem b2e{ops:Array Oper}{L:Array Bool}{i:Nat}(h:i∈Region.ready .any ops L):i < ops.size:=by
 obtain ⟨_,o,ho,_⟩:=mem_ready.1 h
 exact (Array.getElem?_eq_some_iff.1 ho).1
theorem LM.free{ops:Array Oper}{ms:List (Nat×Nat×Nat)}(hm:MsOk ops ms)(hp:pairsAll 0 ms=true){L:Array Bool}{i:Nat}(hr:i∈Region.ready .any ops L):FreeP ops L i:=by
 intro oi j oj hoi hoj hji hun hno
 have hdep:¬∃e∈oi.after,Region.binds .any e=true∧e.on=j:=by
  rintro ⟨e,he,hb,rfl⟩
  obtain ⟨_,o,ho,hall⟩:=mem_ready.1 hr
  obtain rfl:=Option.some.inj (hoi.symm.trans ho)
  exact c1e (hall e he hb) hun
 have hno':¬∃e∈oj.after,Region.binds .any e=true∧e.on=i:=by
  rintro ⟨e,he,hb,h⟩
  exact hno e he hb h
 have p:=hm.at_ i oi hoi
 have q:=hm.at_ j oj hoj
 rcases Nat.lt_or_gt_of_ne hji with h | h
 ·have:=b1m ms 0 j i _ _ hp q p h
  simp only [Nat.zero_add] at this
  rcases b5C this with h | h | h
  ·exact h.2
  ·exact (hdep h).elim
  ·exact (hno' h).elim
 ·have:=b1m ms 0 i j _ _ hp p q h
  simp only [Nat.zero_add] at this
  rcases b5C this with h | h | h
  ·exact h.1
  ·exact (hno' h).elim
  ·exact (hdep h).elim
theorem b4U{ops:Array Oper}{ms:List (Nat×Nat×Nat)}(hm:MsOk ops ms){i:Nat}:∀(l:List (Nat×Nat×Nat))(k acc:Nat),(∀j p,nthM l j=some p→nthM ms (k+j)=some p)→(∀t,acc.testBit t=true→t=i∨Waits ops i t)→∀t,(waitM i k acc l).testBit t=true→t=i∨Waits ops i t
 | [],_,_,_,hacc,t,h=>hacc t h
 | p::l,k,acc,hl,hacc,t,h=>by
  have hl':∀j p,nthM l j=some p→nthM ms (k+1+j)=some p:=fun j p hj=>by
   have:=hl (j+1) p hj
   rwa [show k+(j+1)=k+1+j by omega] at this
  simp only [waitM] at h
  cases hb:Nat.beq (p.1 &&& acc) 0 with
  | true=>rw [hb] at h;exact b4U hm l (k+1) acc hl' hacc t h
  | false=>
   rw [hb] at h
   refine b4U hm l (k+1) _ hl' (fun t ht=>?_) t h
   rw [Nat.testBit_or,a0I,Bool.or_eq_true,decide_eq_true_eq] at ht
   rcases ht with ht | ht
   ·exact hacc t ht
   ·subst ht
    have hne:p.1 &&& acc≠0:=fun h0=>by rw [h0] at hb;cases hb
    obtain ⟨b,hb2⟩:=Nat.exists_testBit_of_ne_zero hne
    rw [Nat.testBit_and,Bool.and_eq_true] at hb2
    have hk:=hl 0 p rfl
    rw [Nat.add_zero] at hk
    cases ho:ops[t]? with
    | none=>
     have hlen:∀(l:List (Nat×Nat×Nat))(n:Nat),l.length≤n→nthM l n=none:=by
      intro l
      induction l with
      | nil=>intro n _;rfl
      | cons x l ih=>
       intro n hn
       cases n with
       | zero=>simp at hn
       | succ n=>exact ih n (by simpa using hn)
     have:ms.length≤t:=by
      rw [hm.len]
      exact Array.getElem?_eq_none_iff.1 ho
     rw [hlen ms t this] at hk
     cases hk
    | some o=>
     rw [hm.at_ t o ho] at hk
     obtain rfl:=(Option.some.inj hk).symm
     obtain ⟨e,he,heb,hon⟩:=(b0c _ _).1 hb2.1
     rcases hacc b hb2.2 with h | h
     ·exact .inr (.one ho he heb (hon.trans h))
     ·exact .inr (.more ho he heb (hon ▸ h))
theorem b3t{L W i:Nat}:∀(l:List (Nat×Nat×Nat))(ns:List Nat)(k0 k:Nat),needGo L W i k0 ns l=true→k < l.length→k0+k≠i→L.testBit (k0+k)=false→(nthN ns k).testBit i=true∨W.testBit (k0+k)=true
 | [],_,_,_,_,h,_,_=>by simp at h
 | p::l,[],k0,0,h,_,h1,h2=>by
  simp only [needGo,Bool.and_eq_true,Bool.or_eq_true] at h
  rcases h.1 with h | h | h
  ·exact (h1 (Nat.eq_of_beq_eq_true h)).elim
  ·rw [Nat.add_zero] at h2;rw [h2] at h;cases h
  ·exact .inr h
 | p::l,n::ns,k0,0,h,_,h1,h2=>by
  simp only [needGo,Bool.and_eq_true,Bool.or_eq_true] at h
  rcases h.1 with h | h | h | h
  ·exact (h1 (Nat.eq_of_beq_eq_true h)).elim
  ·rw [Nat.add_zero] at h2;rw [h2] at h;cases h
  ·exact .inl h
  ·exact .inr h
 | p::l,[],k0,k+1,h,hk,h1,h2=>by
  simp only [needGo,Bool.and_eq_true] at h
  have:=b3t l [] (k0+1) k h.2 (by simpa using hk) (by omega) (by rwa [show k0+1+k=k0+(k+1) by omega])
  rw [show k0+1+k=k0+(k+1) by omega] at this
  simpa [nthN] using this
 | p::l,n::ns,k0,k+1,h,hk,h1,h2=>by
  simp only [needGo,Bool.and_eq_true] at h
  have:=b3t l ns (k0+1) k h.2 (by simpa using hk) (by omega) (by rwa [show k0+1+k=k0+(k+1) by omega])
  rw [show k0+1+k=k0+(k+1) by omega] at this
  simpa [nthN] using this
theorem LM.need{ops:Array Oper}{ms:List (Nat×Nat×Nat)}(hm:MsOk ops ms){L:Array Bool}{m:Nat}(h:LM ops L m){need:List Nat}{i:Nat}(hn:needGo m (waitM i 0 (1 <<< i) ms) i 0 need ms=true):NeedP ops need L i:=by
 intro j hj hji hun
 rw [h.un hj] at hun
 have:=b3t ms need 0 j hn (by rw [hm.len];exact hj) (by simpa using hji) (by simpa using hun)
 rcases this with h1 | h1
 ·exact .inl h1
 ·rw [Nat.zero_add] at h1
  rcases b4U hm ms 0 _ (fun j p h=>by simpa using h) (fun t ht=>by rw [a0I] at ht;exact .inl (of_decide_eq_true ht)) j h1 with h2 | h2
  ·exact (hji h2).elim
  ·exact .inr h2
theorem c9d{ops:Array Oper}{ms:List (Nat×Nat×Nat)}{need:List Nat}(hm:MsOk ops ms)(hp:pairsAll 0 ms=true):∀(od:Ord)(f:Nat)(hd:Bool)(L:Array Bool)(m:Nat),LM ops L m→okM ms need f hd od m=true→OkP ops need f hd od L:=by
 intro od
 induction od with
 | done=>
  intro f hd L m h hok
  have hr:rdyIn m [] 0 ms=true:=by cases f<;>exact hok
  have:=h.rdyIn hm hr
  have e:Region.ready .any ops L=[]:=List.eq_nil_iff_forall_not_mem.2 fun k hk=>by cases this k hk
  cases f<;>exact e
 | early i k ih=>
  intro f hd L m h hok
  cases f with
  | zero=>cases hok
  | succ f=>
   simp only [okM,Bool.and_eq_true] at hok
   have hr:=h.isRdy hm hok.1
   exact ⟨hr,LM.free hm hp hr,ih f true _ _ (h.set (b2e hr)) hok.2⟩
 | load i k ih=>
  intro f hd L m h hok
  cases f with
  | zero=>cases hok
  | succ f=>
   simp only [okM,Bool.and_eq_true] at hok
   have hr:=h.isRdy hm hok.1
   exact ⟨hr,LM.free hm hp hr,h.need hm hok.2.1,ih f true _ _ (h.set (b2e hr)) hok.2.2⟩
 | step i k ih=>
  intro f hd L m h hok
  cases f with
  | zero=>cases hok
  | succ f=>
   simp only [okM,Bool.and_eq_true,Bool.or_eq_true,Bool.not_eq_true'] at hok
   refine ⟨fun hd1=>?_,fun hr=>ih f true _ _ (h.set (b2e hr)) hok.2⟩
   rcases hok.1 with h1 | h1
   ·rw [hd1] at h1;cases h1
   ·exact ⟨h.isRdy hm h1.1,h.rdyIn hm h1.2⟩
 | alt i k r ih ihr=>
  intro f hd L m h hok
  cases f with
  | zero=>cases hok
  | succ f=>
   simp only [okM,Bool.and_eq_true,Bool.or_eq_true,Bool.not_eq_true'] at hok
   refine ⟨fun hd1=>?_,fun hr=>ih f true _ _ (h.set (b2e hr)) hok.2.1,ihr (f+1) false _ _ h hok.2.2⟩
   rcases hok.1 with h1 | h1
   ·rw [hd1] at h1;cases h1
   ·exact ⟨h.isRdy hm h1.1,h.rdyIn hm h1.2⟩
theorem lm0(ops:Array Oper):LM ops (Array.replicate ops.size false) 0:=⟨by simp,fun k=>by
 rcases Nat.lt_or_ge k ops.size with h | h
 ·simp [h]
 ·simp [h]⟩
theorem b7h{E:Pan}{ops:Array Oper}{need:List Nat}{pd qd:List (Nat×Option Nat)}{Q:Act→World→Prop}{i:Nat}{oi:Oper}{v:Value}{w0:World}{g:Option Nat}{pb:Bool}(hi:ops[i]? = some oi)(hsel:∀(j:Nat)(o:Oper) cs b,ops[j]? = some o→o.op≠.select cs b)
  (hpd:∀p∈pd,p∈qd) (hqd:pb=true∨(i,g)∈qd):
  ∀(f:Nat)(L:Array Bool)(a:Act)(w:World),Closed ops L→(pb=true∨sameB g w0 w)→
   (∀j oj,ops[j]? = some oj→j≠i→L.getD j true=false→(∀e∈oj.after,Region.binds .any e=true→e.on≠i)→oi.apart ops oj=true)→
   (∀j,j < ops.size→j≠i→L.getD j true=false→pb=true∨(nthN need j).testBit i=true∨Waits ops i j)→
   i∈Region.ready .any ops L→YC P ops (fun w'=>pb=true∨sameB g w0 w') oi v a→
   wpE P E ops need qd Q f (L.setIfInBounds i true) (a.put oi.dst v) w→wpE P E ops need pd Q (f+1) L a w:=by
 have weak:∀(f:Nat)(L:Array Bool)(a:Act)(w:World),wpE P E ops need qd Q f L a w→wpE P E ops need pd Q f L a w:=by
  intro f
  induction f with
  | zero=>intro L a w h;exact h
  | succ f ih=>intro L a w h;exact ⟨h.1,fun i hi=>b0a (fun a' w' h=>⟨fun p hp=>h.1 p (hpd p hp),ih _ _ _ h.2⟩) (h.2 i hi)⟩
 intro f
 induction f with
 | zero=>
  intro L a w hcl hw hfree hneed hr hy H
  refine ⟨fun h=>(by rw [h] at hr;cases hr),fun j hj=>?_⟩
  by_cases hji:j=i
  ·subst hji;exact hy.wOp hi hw ⟨fun _ _ _=>sameB.refl _ _,weak _ _ _ _ H⟩
  ·have:=ready_mono hj hji
   rw [H.1] at this
   cases this
 | succ f ih=>
  intro L a w hcl hw hfree hneed hr hy H
  refine ⟨fun h=>(by rw [h] at hr;cases hr),fun j hj=>?_⟩
  by_cases hji:j=i
  ·subst hji;exact hy.wOp hi hw ⟨fun _ _ _=>sameB.refl _ _,weak _ _ _ _ H⟩
  ·have h1:=H.2 j (ready_mono hj hji)
   obtain ⟨hjun,oj,hoj,hall⟩:=mem_ready.1 hj
   have hiun:=(mem_ready.1 hr).1
   have hnot:∀e∈oj.after,Region.binds .any e=true→e.on≠i:=fun e he hb heq=>by
    have h1:=hall e he hb
    rw [heq] at h1
    exact c1e h1 hiun
   have h2:=c7f hoj (hfree j oj hoj hji hjun hnot) (fun cs b=>hsel i oi cs b hi) (fun cs b=>hsel j oj cs b hoj) hy h1
   have hfree':∀k ok,ops[k]? = some ok→k≠i→(L.setIfInBounds j true).getD k true=false→
     (∀e∈ok.after,Region.binds .any e=true→e.on≠i)→oi.apart ops ok=true:=fun k ok hk hki hun hno=>by
    refine hfree k ok hk hki ?_ hno
    by_cases hjk:j=k
    ·subst hjk;exact hjun
    ·rw [getD_set_ne true hjk] at hun;exact hun
   have hneed':∀k,k < ops.size→k≠i→(L.setIfInBounds j true).getD k true=false→pb=true∨(nthN need k).testBit i=true∨Waits ops i k:=fun k hk hki hun=>by
    refine hneed k hk hki ?_
    by_cases hjk:j=k
    ·subst hjk;exact hjun
    ·rw [getD_set_ne true hjk] at hun;exact hun
   have hjlt:j < ops.size:=(Array.getElem?_eq_some_iff.1 hoj).1
   refine b0a (fun a' w' h3=>⟨fun p hp=>h3.2.1 p (hpd p hp),ih (L.setIfInBounds j true) a' w' (hcl.set hj) ?_ hfree' hneed' (ready_mono hr (Ne.symm hji)) h3.1 ?_⟩) h2
   ·rcases hw with h | h
    ·exact .inl h
    ·rcases hqd with h5 | h5
     ·exact .inl h5
     ·rcases hneed j hjlt hji hjun with h4 | h4 | h4
      ·exact .inl h4
      ·exact .inr (h.trans (h3.2.1 _ h5 h4))
      ·exact (c1e (b9L hcl h4 hj) hiun).elim
   ·rw [Array.setIfInBounds_comm _ _ hji]
    exact h3.2.2
theorem c2u{ops:List Oper}{C:World→Prop}{o:Oper}{v:Value}{a:Act}{σ:Fr}(hr:Rep N a σ){w0:World}(hC:C w0)(h:∀w,C w→(gopS ops σ o).run P w=.ok (.value v) w):YC P ops.toArray C o v a:=by
 unfold YC
 rw [b3s hr]
 unfold gopS at h
 simp only [a7Y] at h
 cases hg:o.guard with
 | none=>
  simp only [hg] at h
  exact .inl ⟨rfl,fun w hw=>by rw [hr.eval];exact h w hw⟩
 | some g=>
  obtain ⟨j,want⟩:=g
  simp only [hg,gsem] at h
  cases hw:(yldX ops σ j == some want) with
  | true=>
   simp only [hw,cond_true] at h
   exact .inl ⟨hw,fun w hw=>by rw [hr.eval];exact h w hw⟩
  | false=>
   simp only [hw,cond_false] at h
   have:=h w0 hC
   simp only [Sem.run_pure,Result.ok.injEq,Next.value.injEq] at this
   exact .inr ⟨hw,this.1.symm⟩
theorem b6C{E:Pan}{ops:List Oper}{i:Nat}{o:Oper}{a:Act}{σ:Fr}{w:World}{K:Value→World→Prop}(ho:ops[i]? = some o)(hr:Rep N a σ)(h:opK P E (gopS ops σ o) w K):
  wOp P E ops.toArray i (fun a' w'=>∃v,a'=a.put o.dst v∧K v w') a w:=by
 unfold wOp
 simp only [List.getElem?_toArray,ho]
 rw [b3s hr]
 unfold gopS at h
 simp only [a7Y] at h
 have plain:opK P E (execOp (ev σ) o) w K→opA P E o a w fun a' w'=>∃v,a'=a.put o.dst v∧K v w':=by
  intro h
  unfold opK at h
  unfold opA
  rw [hr.eval]
  generalize (execOp (ev σ) o).run P w=r at *
  cases r with
  | ok n w'=>
   cases n<;>simp only at h ⊢
   case value v=>exact ⟨_,rfl,h⟩
   case skip=>exact ⟨_,rfl,h⟩
   case enter f args=>exact Cv.mono h (fun u w' h=>⟨_,rfl,h⟩) fun _ _ h=>h
  | halt x w'=>cases x<;>simp only at h ⊢ <;> exact h
 cases hg:o.guard with
 | none=>
  simp only [hg] at h
  simp only [if_true]
  exact plain h
 | some g=>
  obtain ⟨j,want⟩:=g
  simp only [hg,gsem] at h
  by_cases hw:(yldX ops σ j == some want)=true
  ·simp only [hw,cond_true] at h
   simp only [hw,if_true]
   exact plain h
  ·have hw':(yldX ops σ j == some want)=false:=by simpa using hw
   simp only [hw',cond_false] at h
   simp only [hw',Bool.false_eq_true,if_false]
   exact ⟨_,rfl,h⟩
theorem b7i{l:List (Option Nat)}{w w':World}{p:Prop}(h:keepX l w w' p):(∀g∈l,sameB g w w')∧p:=by
 induction l with
 | nil=>exact ⟨fun _ h=>(by cases h),h⟩
 | cons g l ih=>
  obtain ⟨h1,h2⟩:=h
  obtain ⟨h3,h4⟩:=ih h2
  refine ⟨fun k hk=>?_,h4⟩
  rcases List.mem_cons.1 hk with rfl | hk
  ·exact h1
  ·exact h3 k hk
theorem b8e{nd:Nat}{pd:List (Nat×Option Nat)}{p:Nat×Option Nat}(hp:p∈pd)(hn:nd.testBit p.1=true):p.2∈selB nd pd:=by
 induction pd with
 | nil=>cases hp
 | cons q pd ih=>
  rcases List.mem_cons.1 hp with rfl | hp
  ·simp [selB,hn]
  ·simp only [selB]
   cases nd.testBit q.1
   ·exact ih hp
   ·exact List.mem_cons_of_mem _ (ih hp)
section
variable {E:Pan}{ops:List Oper}{need:List Nat}{K:Fr→World→Prop}{Q:Act→World→Prop}{D:List Nat}{σ₀:Fr}
theorem c1f(hsel:Region.noSelect ops.toArray=true)(hdok:dokO N ops)(hD:∀o∈ops,∀k,o.dst=some k→memb D k=true)
  (hq:∀σ' a' w',Rep N a' σ'→Kept D σ₀ σ'→K σ' w'→Q a' w'):∀(od:Ord)(pd:List (Nat×Option Nat))(f:Nat)(L:Array Bool)(σ:Fr)(a:Act)(w:World),Closed ops.toArray L→Rep N a σ→Kept D σ₀ σ→regX P E ops need pd od σ w K→
   (OkP ops.toArray need f true od L→wpE P E ops.toArray need pd Q f L a w)∧
   (OkP ops.toArray need f false od L→∀i∈altsO od,i∈Region.ready .any ops.toArray L→∃g,f=g+1∧wOp P E ops.toArray i (fun a' w'=>(∀p∈pd,(nthN need i).testBit p.1=true→sameB p.2 w w')∧wpE P E ops.toArray need pd Q g (L.setIfInBounds i true) a' w') a w):=by
 intro od
 have hstep:∀{i:Nat}{o:Oper}{σ:Fr}{a:Act},ops[i]? = some o→Rep N a σ→Kept D σ₀ σ→∀v,Rep N (a.put o.dst v) (up σ o.dst v)∧Kept D σ₀ (up σ o.dst v):=fun ho hr hk v=>
  ⟨hr.put (fun k hk=>hdok _ (List.mem_of_getElem? ho) k hk) v,hk.up (fun k hk=>hD _ (List.mem_of_getElem? ho) k hk) v⟩
 induction od with
 | done=>
  intro pd f L σ a w hcl hr hk h
  refine ⟨fun hok=>?_,fun _ i hi=>(by cases hi)⟩
  have he:Region.ready .any ops.toArray L=[]:=by
   cases f<;>exact hok
  have hQ:Q a w:=hq _ _ _ hr hk h
  cases f with
  | zero=>exact ⟨he,hQ⟩
  | succ f=>exact ⟨fun _=>hQ,fun i hi=>by rw [he] at hi;cases hi⟩
 | early i k ih=>
  intro pd f L σ a w hcl hr hk h
  refine ⟨fun hok=>?_,fun _ i hi=>(by cases hi)⟩
  cases f with
  | zero=>exact hok.elim
  | succ f=>
   obtain ⟨hrd',hfr,hok⟩:=hok
   simp only [regX] at h
   split at h
   ·exact h.elim
   ·rename_i o ho
    have ho':ops.toArray[i]? = some o:=by simpa using ho
    have main:∀v,(∀w',(gopS ops σ o).run P w'=.ok (.value v) w')→regX P E ops need pd k (up σ o.dst v) w K→wpE P E ops.toArray need pd Q (f+1) L a w:=fun v hv hk'=>by
     obtain ⟨hr',hkk⟩:=hstep ho hr hk v
     exact b7h (pb:=true) (w0:=w) (g:=none) (qd:=pd) ho' (Region.noSelect_spec hsel) (fun _ h=>h) (.inl rfl) f L a w hcl (.inl rfl) (fun j oj=>hfr o j oj ho') (fun _ _ _ _=>.inl rfl) hrd'
      (c2u hr (w0:=w) (.inl rfl) fun w' _=>hv w') ((ih pd f _ _ _ _ (hcl.set hrd') hr' hkk hk').1 hok)
    split at h
    ·rename_i v hv
     exact main v (fun w'=>by rw [c0e hv];rfl) h
    ·obtain ⟨v,hv,hk'⟩:=h
     exact main v hv hk'
 | load i k ih=>
  intro pd f L σ a w hcl hr hk h
  refine ⟨fun hok=>?_,fun _ i hi=>(by cases hi)⟩
  cases f with
  | zero=>exact hok.elim
  | succ f=>
   obtain ⟨hrd',hfr,hnd,hok⟩:=hok
   simp only [regX] at h
   split at h
   ·exact h.elim
   ·rename_i o ho
    have ho':ops.toArray[i]? = some o:=by simpa using ho
    obtain ⟨v,hv,hk'⟩:=h
    obtain ⟨hr',hkk⟩:=hstep ho hr hk v
    exact b7h (pb:=false) (w0:=w) (g:=rdB σ o) (qd:=(i,rdB σ o)::pd) ho' (Region.noSelect_spec hsel) (fun _ h=>List.mem_cons_of_mem _ h) (.inr (List.mem_cons_self ..)) f L a w hcl (.inr (sameB.refl _ _)) (fun j oj=>hfr o j oj ho') (fun j hj hji hun=>.inr (hnd j hj hji hun)) hrd'
      (c2u hr (w0:=w) (.inr (sameB.refl _ _)) fun w' hw'=>hv w' (hw'.resolve_left (by simp))) ((ih _ f _ _ _ _ (hcl.set hrd') hr' hkk hk').1 hok)
 | step i k ih=>
  intro pd f L σ a w hcl hr hk h
  have two:∀hd,OkP ops.toArray need f hd (.step i k) L→∀j∈altsO (.step i k),j∈Region.ready .any ops.toArray L→∃g,f=g+1∧wOp P E ops.toArray j (fun a' w'=>(∀p∈pd,(nthN need j).testBit p.1=true→sameB p.2 w w')∧wpE P E ops.toArray need pd Q g (L.setIfInBounds j true) a' w') a w:=by
   intro hd hok j hj hrd
   obtain rfl:j=i:=by simpa [altsO] using hj
   cases f with
   | zero=>exact hok.elim
   | succ f=>
    refine ⟨f,rfl,?_⟩
    simp only [regX] at h
    split at h
    ·exact h.elim
    ·rename_i o ho
     refine b0a ?_ (b6C ho hr h)
     rintro a' w' ⟨v,rfl,hn⟩
     obtain ⟨h1,h2⟩:=b7i hn
     obtain ⟨hr',hkk⟩:=hstep ho hr hk v
     exact ⟨fun p hp hm=>h1 _ (b8e hp hm),(ih _ f _ _ _ _ (hcl.set hrd) hr' hkk h2).1 (hok.2 hrd)⟩
  refine ⟨fun hok=>?_,two false⟩
  cases f with
  | zero=>exact hok.elim
  | succ f=>
   refine ⟨fun h0=>?_,fun j hj=>?_⟩
   ·have:=(hok.1 rfl).1
    rw [h0] at this
    cases this
   ·obtain ⟨g,hg,hw⟩:=two true hok j ((hok.1 rfl).2 j hj) hj
    obtain rfl:f=g:=by omega
    exact hw
 | alt i k r ih ihr=>
  intro pd f L σ a w hcl hr hk h
  have two:∀hd,OkP ops.toArray need f hd (.alt i k r) L→∀j∈altsO (.alt i k r),j∈Region.ready .any ops.toArray L→∃g,f=g+1∧wOp P E ops.toArray j (fun a' w'=>(∀p∈pd,(nthN need j).testBit p.1=true→sameB p.2 w w')∧wpE P E ops.toArray need pd Q g (L.setIfInBounds j true) a' w') a w:=by
   intro hd hok j hj hrd
   cases f with
   | zero=>exact hok.elim
   | succ f=>
    simp only [regX] at h
    split at h
    ·exact h.elim
    ·rename_i o ho
     simp only [altsO,List.mem_cons] at hj
     by_cases hji:j=i
     ·subst hji
      refine ⟨f,rfl,?_⟩
      refine b0a ?_ (b6C ho hr h.1)
      rintro a' w' ⟨v,rfl,hn⟩
      obtain ⟨h1,h2⟩:=b7i hn
      obtain ⟨hr',hkk⟩:=hstep ho hr hk v
      exact ⟨fun p hp hm=>h1 _ (b8e hp hm),(ih _ f _ _ _ _ (hcl.set hrd) hr' hkk h2).1 (hok.2.1 hrd)⟩
     ·exact (ihr pd (f+1) L σ a w hcl hr hk h.2).2 hok.2.2 j (hj.resolve_left hji) hrd
  refine ⟨fun hok=>?_,two false⟩
  cases f with
  | zero=>exact hok.elim
  | succ f=>
   refine ⟨fun h0=>?_,fun j hj=>?_⟩
   ·have:=(hok.1 rfl).1
    rw [h0] at this
    cases this
   ·obtain ⟨g,hg,hw⟩:=two true hok j ((hok.1 rfl).2 j hj) hj
    obtain rfl:f=g:=by omega
    exact hw
end
theorem b7j{m:Nat}:∀(l:List (Nat×Nat×Nat))(k0:Nat),(∀k p,nthM l k=some p→m.testBit (k0+k)=false→rdyB p.1 m=false)→rdyIn m [] k0 l=true
 | [],_,_=>rfl
 | x::l,k0,h=>by
  simp only [rdyIn,Bool.and_eq_true]
  refine ⟨?_,b7j l (k0+1) fun k p hp h1=>h (k+1) p hp (by rwa [show k0+(k+1)=k0+1+k by omega])⟩
  cases hb:m.testBit k0 with
  | true=>rfl
  | false=>rw [h 0 x rfl (by rwa [Nat.add_zero])];rfl
def undo(m:Nat):Nat→Nat
 | 0=>0
 | n+1=>undo m n+(if m.testBit n=true then 0 else 1)
theorem b8f{m i:Nat}(h:m.testBit i=false):∀n,undo (m ||| (1 <<< i)) n+(if i < n then 1 else 0)=undo m n
 | 0=>by simp [undo]
 | n+1=>by
  have ih:=b8f h n
  show undo (m ||| (1 <<< i)) n+(if (m ||| (1 <<< i)).testBit n=true then 0 else 1)+(if i < n+1 then 1 else 0)=undo m n+(if m.testBit n=true then 0 else 1)
  rw [Nat.testBit_or,a0I]
  by_cases e:n=i
  ·subst e
   rw [if_neg (Nat.lt_irrefl _)] at ih
   rw [h,decide_eq_true rfl,Bool.or_true,if_pos rfl,if_pos (Nat.lt_succ_self _),if_neg (by decide)]
   omega
  ·rw [show decide (n=i)=false by simpa using e,Bool.or_false]
   by_cases hl:i < n
   ·rw [if_pos hl] at ih;rw [if_pos (show i < n+1 by omega)];omega
   ·rw [if_neg hl] at ih;rw [if_neg (show ¬i < n+1 by omega)];omega
theorem c2v{m:Nat}:∀{n:Nat},undo m n=0→∀k,k < n→m.testBit k=true
 | 0,_,k,hk=>by omega
 | n+1,h,k,hk=>by
  unfold undo at h
  by_cases e:k=n
  ·subst e
   by_cases hb:m.testBit k=true
   ·exact hb
   ·rw [if_neg hb] at h;omega
  ·have h1:undo m n=0:=by omega
   exact c2v h1 k (by omega)
theorem c0f(m:Nat):∀n,undo m n≤n
 | 0=>Nat.le_refl _
 | n+1=>by
  have:=c0f m n
  unfold undo
  split<;>omega
theorem b7k{E:Pan}{ops:List Oper}{S:List Nat}{σ:Fr}{J:Nat→List Value→World→Prop}:∀(l:List Oper)(ms:List (Nat×Nat×Nat))(i0 k:Nat)(o:Oper)(p:Nat×Nat×Nat),stepsJ P E ops S σ J l ms i0→l[k]? = some o→nthM ms k=some p→
  ∀(L:Nat)(τ:Fr)(w:World),J L (S.map τ) w→L.testBit (i0+k)=false→rdyB p.1 L=true→opK P E (gopS ops (fill' σ S τ) o) w fun v w'=>J (L ||| (1 <<< (i0+k))) (S.map (up (fill' σ S τ) o.dst v)) w'
 | [],_,_,_,_,_,_,h,_=>by simp at h
 | _::_,[],_,_,_,_,_,_,h=>by cases h
 | o::l,p::ms,i0,0,o',p',h,ho,hp=>by
  simp only [List.getElem?_cons_zero,Option.some.injEq] at ho
  simp only [nthM,Option.some.injEq] at hp
  subst ho;subst hp
  exact h.1
 | o::l,p::ms,i0,k+1,o',p',h,ho,hp=>by
  have:=b7k l ms (i0+1) k o' p' h.2 (by simpa using ho) hp
  rwa [show i0+1+k=i0+(k+1) by omega] at this
theorem c1g{E:Pan}{ops:List Oper}{ms:List (Nat×Nat×Nat)}{S D:List Nat}{σ σ₀:Fr}{J:Nat→List Value→World→Prop}{K:Fr→World→Prop}{Q:Act→World→Prop}(hms:MsOk ops.toArray ms)(hdok:dokO N ops)(hS:∀o∈ops,∀k,o.dst=some k→memb S k=true)(hD:∀o∈ops,∀k,o.dst=some k→memb D k=true)
  (hq:∀σ' a' w',Rep N a' σ'→Kept D σ₀ σ'→K σ' w'→Q a' w') (hst:stepsJ P E ops S σ J ops ms 0) (hend:∀(L:Nat)(τ:Fr)(w:World),J L (S.map τ) w→rdyIn L [] 0 ms=true→K (fill' σ S τ) w):
  ∀(f:Nat)(L:Array Bool)(m:Nat)(σ1:Fr)(a:Act)(w:World),LM ops.toArray L m→Rep N a σ1→Kept S σ σ1→Kept D σ₀ σ1→J m (S.map σ1) w→undo m ops.length≤f→wpE P E ops.toArray [] [] Q f L a w:=by
 have self:∀{σ1:Fr},Kept S σ σ1→fill' σ S σ1 = σ1:=fun{σ1} h=>by
  funext i
  unfold fill'
  cases hb:memb S i with
  | true=>rfl
  | false=>exact (h i hb).symm
 have done:∀(L:Array Bool)(m:Nat)(σ1:Fr)(a:Act)(w:World),LM ops.toArray L m→Rep N a σ1→Kept S σ σ1→Kept D σ₀ σ1→J m (S.map σ1) w→Region.ready .any ops.toArray L=[]→Q a w:=by
  intro L m σ1 a w hL hr hk hkd hJ he
  have h1:rdyIn m [] 0 ms=true:=b7j ms 0 fun k p hp hb=>by
   rw [Nat.zero_add] at hb
   cases hrd:rdyB p.1 m with
   | false=>rfl
   | true=>
    have:k∈Region.ready .any ops.toArray L:=hL.isRdy hms (by unfold isRdy;rw [hp];simp [hb,hrd])
    rw [he] at this;cases this
  have h2:=hend m σ1 w hJ h1
  rw [self hk] at h2
  exact hq _ _ _ hr hkd h2
 intro f
 induction f with
 | zero=>
  intro L m σ1 a w hL hr hk hkd hJ hu
  have he:Region.ready .any ops.toArray L=[]:=List.eq_nil_iff_forall_not_mem.2 fun k hkk=>by
   obtain ⟨o,ho,h1,_⟩:=(hL.ready hms).1 hkk
   have hlt:k < ops.length:=by have:=(Array.getElem?_eq_some_iff.1 ho).1;simpa using this
   have h0:undo m ops.length=0:=by omega
   have:=c2v h0 k hlt
   rw [h1] at this;cases this
  exact ⟨he,done L m σ1 a w hL hr hk hkd hJ he⟩
 | succ f ih=>
  intro L m σ1 a w hL hr hk hkd hJ hu
  refine ⟨done L m σ1 a w hL hr hk hkd hJ,fun i hi=>?_⟩
  obtain ⟨o,ho,h1,h2⟩:=(hL.ready hms).1 hi
  have ho':ops[i]? = some o:=by simpa using ho
  have hlt:i < ops.length:=by have:=(Array.getElem?_eq_some_iff.1 ho).1;simpa using this
  have h3:=b7k ops ms 0 i o _ hst ho' (hms.at_ i o ho) m σ1 w hJ (by rwa [Nat.zero_add]) h2
  rw [self hk,Nat.zero_add] at h3
  refine b0a ?_ (b6C ho' hr h3)
  rintro a' w' ⟨v,rfl,hn⟩
  have hm:=List.mem_of_getElem? ho'
  refine ⟨fun p hp=>(by cases hp),ih _ _ _ _ _ (hL.set (by simpa using hlt)) (hr.put (fun k hk=>hdok _ hm k hk) v) (hk.up (fun k hk=>hS _ hm k hk) v) (hkd.up (fun k hk=>hD _ hm k hk) v) hn ?_⟩
  have:=b8f h1 ops.length
  rw [if_pos hlt] at this
  omega
theorem c2w(S:List Nat)(σ:Fr)(i:Nat):pickS S (S.map σ) i=some (σ i)∨pickS S (S.map σ) i=none:=by
 induction S with
 | nil=>exact .inr rfl
 | cons s S ih=>
  simp only [List.map_cons,pickS,nth,List.tail_cons]
  cases h:Nat.beq i s
  ·exact ih
  ·left
   rw [Nat.eq_of_beq_eq_true h]
   rfl
theorem c2x{σ σ1:Fr}{D S:List Nat}(h:Kept D σ σ1):fill σ D S (S.map σ1) σ1 = σ1:=by
 funext i
 unfold fill
 rcases c2w S σ1 i with e | e<;>rw [e]
 cases hm:memb D i
 ·exact (h i hm).symm
 ·rfl
theorem c1h{σ σ1:Fr}{D:List Nat}(h:Kept D σ σ1):fill' σ D σ1 = σ1:=by
 funext i
 unfold fill'
 cases hm:memb D i
 ·exact (h i hm).symm
 ·rfl
theorem b4K(a b:List Nat):dokL N (a++b)=(dokL N a&&dokL N b):=by
 induction a with
 | nil=>rfl
 | cons d a ih=>simp only [List.cons_append,dokL,ih,Bool.and_assoc]
theorem c7g(ops:Array Oper)(n:Nat):Closed ops (Array.replicate n false):=fun j oj _ hl=>by
 rcases Nat.lt_or_ge j n with h | h
 ·simp [h] at hl
 ·simp [h] at hl
theorem c2y{E:Pan}(hm:P.follows .mixedOrders=true):∀(c:Code)(h:Hint)(σ:Fr)(a:Act)(w:World)(Q:Exit→Fr→World→Prop)(Q':Exit→Act→World→Prop),
  WPx P E c h σ w Q→dokL N (dsts c)=true→lexOk c h=true→Rep N a σ→(∀c a w,a.defers=[]→E c w→Q' (.panic c) a w)→
  (∀e σ' a' w',Rep N a' σ'→Kept (dsts c) σ σ'→Q e σ' w'→Q' e a' w')→c.wp P Q' a w:=by
 intro c
 induction c with
 | skip=>intro h σ a w Q Q' hx _ _ hr hE hq;exact wp_skip (hq _ _ _ _ hr (Kept.refl _ _) hx)
 | label l=>intro h σ a w Q Q' hx _ _ hr hE hq;exact wp_label (hq _ _ _ _ hr (Kept.refl _ _) hx)
 | exit id=>intro h σ a w Q Q' hx _ _ hr hE hq;exact wp_exit (hq _ _ _ _ hr (Kept.refl _ _) hx)
 | ret=>intro h σ a w Q Q' hx _ _ hr hE hq;exact wp_ret (hq _ _ _ _ hr (Kept.refl _ _) hx)
 | refuse s=>intro h σ a w Q Q' hx _ _ hr hE hq;exact hx.elim
 | goto l=>intro h σ a w Q Q' hx _ _ hr hE hq;exact hx.elim
 | scope c ih=>
  intro h σ a w Q Q' hx hd hlex hr hE hq
  cases h<;>try exact hx.elim
  rename_i hc
  refine wp_scope_straight (ih hc σ a w (noGotoX Q) _ hx hd hlex hr (fun c a w hd h=>hE c a w hd h) ?_)
  intro e σ' a' w' hr' hk' hh
  cases e<;>first | exact hh.elim | exact hq _ _ _ _ hr' hk' hh
 | rangeFunc f ps x y ih1 ih2=>intro h σ a w Q Q' hx _ _ hr hE hq;exact hx.elim
 | region id ops draw=>
  intro h σ a w Q Q' hx hd hlex hr hE hq
  have hdo:dokO N ops.toList:=c7e hd
  have hD:∀o∈ops.toList,∀k,o.dst=some k→memb (dstsL ops.toList) k=true:=fun o ho k hk=>b5A ho hk
  cases draw with
  | false=>
   refine wp_region_list ?_
   have:=c1d (P:=P) (N:=N) (ops:=ops.toList) (Q:=Q') (D:=dstsL ops.toList) (σ₀:=σ) hE ops.toList (fun _ h=>h) hdo hD σ a w hr (Kept.refl _ _) hx
    (fun σ' a' w' hr' hk' hh=>hq _ _ _ _ hr' hk' hh)
   simpa using this
  | true=>
   cases h<;>try exact hx.elim
   ·rename_i ms need od
    simp only [b3r,lReg,Bool.and_eq_true] at hlex
    have hms:MsOk ops ms:=by
     obtain ⟨h1,h2⟩:=b6B ops.toList ms hlex.2.1
     exact ⟨by simpa using h1,fun i o ho=>h2 i o (by simpa using ho)⟩
    have:=c1f (P:=P) (N:=N) (E:=E) (ops:=ops.toList) (need:=need) (Q:=fun a' w'=>Q' .normal a' w') (D:=dstsL ops.toList) (σ₀:=σ) (by simpa using hlex.1) hdo hD
     (fun σ' a' w' hr' hk' hh=>hq _ _ _ _ hr' hk' hh) od [] ops.size (Array.replicate ops.size false) σ a _ (c7g _ _) hr (Kept.refl _ _) hx
    simp only [Array.toArray_toList] at this
    exact wp_region_any hm (b0b hE (fun a w _ h=>h) _ _ _ _ hr.1 (this.1 (c9d hms hlex.2.2.1 od _ _ _ _ (lm0 ops) hlex.2.2.2)))
   ·rename_i ms S
    obtain ⟨J,hJ0,hst,hend⟩:=hx
    simp only [b3r,lReg,Bool.and_eq_true] at hlex
    have hms:MsOk ops ms:=by
     obtain ⟨h1,h2⟩:=b6B ops.toList ms hlex.2.1
     exact ⟨by simpa using h1,fun i o ho=>h2 i o (by simpa using ho)⟩
    have hS:∀o∈ops.toList,∀k,o.dst=some k→memb S k=true:=fun o ho k hk=>List.all_eq_true.1 hlex.2.2 k (b8d (b5A ho hk))
    have:=c1g (P:=P) (N:=N) (E:=E) (ops:=ops.toList) (ms:=ms) (S:=S) (D:=dstsL ops.toList) (σ:=σ) (σ₀:=σ) (Q:=fun a' w'=>Q' .normal a' w') (by simpa using hms) hdo hS hD
     (fun σ' a' w' hr' hk' hh=>hq _ _ _ _ hr' hk' hh) hst hend ops.size (Array.replicate ops.size false) 0 σ a _ (by simpa using lm0 ops) hr (Kept.refl _ _) (Kept.refl _ _) (hJ0 σ) (by have:=c0f 0 ops.toList.length;simpa using this)
    simp only [Array.toArray_toList] at this
    exact wp_region_any hm (b0b hE (fun a w _ h=>h) _ _ _ _ hr.1 this)
 | seq x y ihx ihy=>
  intro h σ a w Q Q' hx hd hlex hr hE hq
  have hd':=hd
  simp only [c4D,b4K,Bool.and_eq_true] at hd'
  refine wp_seq ?_
  cases h<;>try exact hx.elim
  ·rename_i hhx hhy
   simp only [b7g,lSeq,Bool.and_eq_true] at hlex
   refine ihx hhx σ a w _ _ hx hd'.1 hlex.1 hr (fun c a w hd h=>hE c a w hd h) ?_
   intro e σ1 a1 w1 hr1 hk1 hh
   cases e with
   | normal=>exact ihy hhy σ1 a1 w1 _ _ hh hd'.2 hlex.2 hr1 hE fun e' σ2 a2 w2 hr2 hk2 hh2=>hq _ _ _ _ hr2 (hk1.left.trans hk2.right) hh2
   | exit i=>exact hq _ _ _ _ hr1 hk1.left hh
   | goto l=>exact hq _ _ _ _ hr1 hk1.left hh
   | ret=>exact hq _ _ _ _ hr1 hk1.left hh
   | panic ch=>exact hq _ _ _ _ hr1 hk1.left hh
   | outgrown=>exact hq _ _ _ _ hr1 hk1.left hh
  ·rename_i S hhx hhy
   simp only [b7g,lSeq,Bool.and_eq_true] at hlex
   refine ihx hhx σ a w _ _ hx hd'.1 hlex.1 hr (fun c a w hd h=>hE c a w hd h) ?_
   intro e σ1 a1 w1 hr1 hk1 hh
   cases e with
   | normal=>
    have hh1:=hh σ1
    rw [c2x hk1] at hh1
    exact ihy hhy σ1 a1 w1 _ _ hh1 hd'.2 hlex.2 hr1 hE fun e' σ2 a2 w2 hr2 hk2 hh2=>hq _ _ _ _ hr2 (hk1.left.trans hk2.right) hh2
   | exit i=>exact hq _ _ _ _ hr1 hk1.left hh
   | goto l=>exact hq _ _ _ _ hr1 hk1.left hh
   | ret=>exact hq _ _ _ _ hr1 hk1.left hh
   | panic ch=>exact hq _ _ _ _ hr1 hk1.left hh
   | outgrown=>exact hq _ _ _ _ hr1 hk1.left hh
 | cond c x y ihx ihy=>
  intro h σ a w Q Q' hx hd hlex hr hE hq
  have hd':=hd
  simp only [c2r,b4K,Bool.and_eq_true] at hd'
  cases h<;>try exact hx.elim
  rename_i hhx hhy
  simp only [c1c,lCond,Bool.and_eq_true] at hlex
  have hxc:xcond (ev σ c) (WPx P E x hhx σ w Q) (WPx P E y hhy σ w Q):=hx
  unfold xcond at hxc
  split at hxc
  ·rename_i hv
   exact wp_cond_true (by rw [hr.eval];exact hv) (ihx hhx σ a w _ _ hxc hd'.1 hlex.1 hr hE fun e σ' a' w' hr' hk' hh=>hq _ _ _ _ hr' hk'.left hh)
  ·rename_i hv
   exact wp_cond_false (by rw [hr.eval];exact hv) (ihy hhy σ a w _ _ hxc hd'.2 hlex.2 hr hE fun e σ' a' w' hr' hk' hh=>hq _ _ _ _ hr' hk'.right hh)
  ·exact hxc.elim
 | block id c ih=>
  intro h σ a w Q Q' hx hd hlex hr hE hq
  cases h<;>try exact hx.elim
  rename_i hc
  refine wp_block (ih hc σ a w _ _ hx hd hlex hr (fun c a w hd h=>hE c a w hd h) ?_)
  intro e σ' a' w' hr' hk' hh
  cases e with
  | exit i=>
   simp only [inBlockX] at hh
   simp only [Exit.inBlock]
   by_cases hi:i=id
   ·subst hi
    simp only [Nat.beq_refl,cond_true] at hh
    simp only [if_true]
    exact hq _ _ _ _ hr' hk' hh
   ·have:Nat.beq i id=false:=by rw [Bool.eq_false_iff];intro hb;exact hi (Nat.eq_of_beq_eq_true hb)
    simp only [this,cond_false] at hh
    simp only [hi,if_false]
    exact hq _ _ _ _ hr' hk' hh
  | normal=>exact hq _ _ _ _ hr' hk' hh
  | goto l=>exact hq _ _ _ _ hr' hk' hh
  | ret=>exact hq _ _ _ _ hr' hk' hh
  | panic ch=>exact hq _ _ _ _ hr' hk' hh
  | outgrown=>exact hq _ _ _ _ hr' hk' hh
 | loop c ih=>
  intro h σ a w Q Q' hx hd hlex hr hE hq
  cases h<;>try exact hx.elim
  rename_i S hc
  obtain ⟨I,μ,h0,hround⟩:=hx
  refine wp_loop (fun a' w'=>∃σ',Rep N a' σ'∧Kept (dsts c) σ σ'∧I (S.map σ') w') (fun a' w'=>μ (S.map fun i=>a'.tmps.getD i undef) w') ⟨σ,hr,Kept.refl _ _,h0⟩ ?_
  rintro a1 w1 ⟨σ1,hr1,hk1,hI1⟩
  have hb:=hround σ1 w1 hI1
  dsimp only at hb
  rw [c1h hk1] at hb
  have hσ1:(fun i=>a1.tmps.getD i undef) = σ1:=funext hr1.2.2
  rw [hσ1]
  refine ih hc σ1 a1 w1 _ _ hb hd hlex hr1 (fun c a w hd h=>hE c a w hd h) ?_
  intro e σ2 a2 w2 hr2 hk2 hh
  cases e with
  | normal=>
   have hσ2:(fun i=>a2.tmps.getD i undef) = σ2:=funext hr2.2.2
   refine ⟨⟨σ2,hr2,hk1.trans hk2,hh.1⟩,?_⟩
   rw [hσ2]
   exact hh.2
  | exit i=>exact hq _ _ _ _ hr2 (hk1.trans hk2) hh
  | goto l=>exact hq _ _ _ _ hr2 (hk1.trans hk2) hh
  | ret=>exact hq _ _ _ _ hr2 (hk1.trans hk2) hh
  | panic ch=>exact hq _ _ _ _ hr2 (hk1.trans hk2) hh
  | outgrown=>exact hq _ _ _ _ hr2 (hk1.trans hk2) hh
def cellAt(t:TypeId)(v:Value):Sem Value:=do loadVar t (← asAddr v)
def xcell(P:Program)(t:TypeId)(a:Value)(w:World)(K:Value→Prop):Prop:=∃v,(cellAt t a).run P w=.ok v w∧K v
def resX(P:Program)(σ:Fr):List ResultVar→World→(List Value→Prop)→Prop
 | [],_,K=>K []
 | .tmp t::r,w,K=>resX P σ r w fun vs=>K (σ t::vs)
 | .cell a t::r,w,K=>xcell P t (σ a) w fun v=>resX P σ r w fun vs=>K (v::vs)
def retV(vs:List Value):Value:=
 match vs with
 | [v]=>v
 | vs=>.tuple vs.toArray
abbrev bodyX(P:Program)(rs:List ResultVar)(R:Value→World→Prop):Exit→Fr→World→Prop
 | .normal,σ,w=>resX P σ rs w fun vs=>R (retV vs) w
 | .ret,σ,w=>resX P σ rs w fun vs=>R (retV vs) w
 | _,_,_=>False
def b2f:List Value→Fr
 | [],_=>undef
 | v::_,0=>v
 | _::l,n+1=>b2f l n
noncomputable def callX(P:Program)(rs:List ResultVar)(c:Code)(h:Hint)(args:List Value)(w:World)(R:Value→World→Prop)(E:Pan):Prop:=
 WPx P E c h (b2f args) w (bodyX P rs R)
theorem c2z(l:List Value)(i:Nat):b2f l i=l.getD i undef:=by
 induction l generalizing i with
 | nil=>simp [b2f]
 | cons v l ih=>
  cases i with
  | zero=>simp [b2f]
  | succ i=>simp only [b2f,ih];simp
theorem c7h{a:Act}{σ:Fr}(hr:Rep N a σ){w:World}:∀(l:List ResultVar)(K:List Value→Prop),resX P σ l w K→
  ∃vs,((l.mapM (m:=Sem) fun
   | .tmp t=>pure (a.tmps.getD t undef)
   | .cell b t=>do loadVar t (← asAddr (a.tmps.getD b undef))).run P w=.ok vs w)∧K vs:=by
 intro l
 induction l with
 | nil=>intro K h;exact ⟨[],by simp,h⟩
 | cons x l ih=>
  intro K h
  cases x with
  | tmp t=>
   obtain ⟨vs,h1,h2⟩:=ih _ h
   refine ⟨σ t::vs,?_,h2⟩
   rw [List.mapM_cons]
   rw [Sem.run_bind,Sem.run_pure,Result.andThen_ok,Sem.run_bind,h1,Result.andThen_ok,Sem.run_pure,hr.2.2]
  | cell b t=>
   obtain ⟨v,hv,h⟩:=h
   obtain ⟨vs,h1,h2⟩:=ih _ h
   refine ⟨v::vs,?_,h2⟩
   rw [List.mapM_cons]
   have hv':(do loadVar t (← asAddr (a.tmps.getD b undef)):Sem Value).run P w=.ok v w:=by rw [hr.2.2];exact hv
   rw [Sem.run_bind,hv',Result.andThen_ok,Sem.run_bind,h1,Result.andThen_ok,Sem.run_pure]
theorem c1i{fn:Func}{R:Value→World→Prop}{E:Pan}{e:Exit}{σ:Fr}{a:Act}{w:World}(hr:Rep N a σ)(h:bodyX P fn.results.toList R e σ w):
  bodyPost P fn (endK R E) e a w:=by
 have key:resX P σ fn.results.toList w (fun vs=>R (retV vs) w)→∃v,(results fn a.tmps).run P w=.ok v w∧R v w:=by
  intro h
  obtain ⟨vs,h1,h2⟩:=c7h hr _ _ h
  refine ⟨retV vs,?_,h2⟩
  unfold results
  rw [Array.mapM_eq_mapM_toList]
  simp only [Sem.run_bind,map_eq_pure_bind,Sem.run_pure]
  refine (congrArg (fun r:Result (List Value)=>(r.andThen fun(x:List Value) w'=>Result.ok x.toArray w').andThen fun(x:Array Value) w'=>Result.ok (if h:x.size=1 then x[0] else Value.tuple x) w') h1).trans ?_
  simp only [Result.andThen_ok]
  congr 1
  cases vs with
  | nil=>rfl
  | cons x l=>
   cases l with
   | nil=>rfl
   | cons y l=>
    rw [dif_neg (by simp)]
    rfl
 cases e with
 | normal=>obtain ⟨v,h1,h2⟩:=key h;exact ⟨hr.1,v,h1,h2⟩
 | ret=>obtain ⟨v,h1,h2⟩:=key h;exact ⟨hr.1,v,h1,h2⟩
 | exit i=>exact h.elim
 | goto l=>exact h.elim
 | panic ch=>exact h.elim
 | outgrown=>exact h.elim
theorem b9M{f:FuncId}{fn:Func}{c:Code}{h:Hint}{rs:List ResultVar}{args:List Value}{w:World}{R:Value→World→Prop}{E:Pan}(hf:P.funcs[f]? = some fn)(hb:fn.body=some c)
  (hrs:fn.results.toList=rs) (hn:args.length≤fn.ntmps) (hd:dokL fn.ntmps (dsts c)=true) (hl:lexOk c h=true) (hm:P.follows .mixedOrders=true) (hx:callX P rs c h args w R E):Cv P f args.toArray w R E:=by
 subst hrs
 refine calls_of_wp hf hb ?_
 refine c2y (N:=fn.ntmps) hm c h (b2f args) _ w _ _ hx hd hl ⟨rfl,by simp;omega,fun i=>?_⟩ (fun c a w hd h=>⟨hd,h⟩) (fun e σ' a' w' hr' _ hh=>c1i hr' hh)
 rw [c2z]
 simp only [Array.getD_eq_getD_getElem?,List.getD_eq_getElem?_getD]
 by_cases hi:i < args.length
 ·simp [Array.getElem?_append,hi]
 ·simp only [Array.getElem?_append,List.size_toArray,hi,if_false,Array.getElem?_replicate]
  rw [List.getElem?_eq_none (by omega)]
  split<;>rfl
noncomputable def chkF(P:Program)(fn:Func)(h:Hint)(n:Nat):Bool:=fn.body.isSome&&(Nat.ble n fn.ntmps&&(dokL fn.ntmps (dsts (fn.body.getD .skip))&&(lexOk (fn.body.getD .skip) h&&P.follows .mixedOrders)))
theorem okF{f:FuncId}{fn:Func}{h:Hint}{args:List Value}{w:World}{R:Value→World→Prop}{E:Pan}{X:Prop}(hf:P.funcs[f]? = some fn)(hk:chkF P fn h args.length=true)(e:X=callX P fn.results.toList (fn.body.getD .skip) h args w R E)(hx:X):Cv P f args.toArray w R E:=by
 simp only [chkF,Bool.and_eq_true] at hk
 obtain ⟨k1,k2,k3,k4,k5⟩:=hk
 refine b9M hf (c:=fn.body.getD .skip) ?_ rfl (Nat.le_of_ble_eq_true k2) k3 k4 k5 (e ▸ hx)
 cases hb:fn.body with
 | none=>rw [hb] at k1;cases k1
 | some c=>rfl
end
end Go.Proofs.YthaaobpfbgcfiaaGreatDoor
